/-
  Texts joined: Head, Ev, Ga. Each says at its head what it shows.
-/
import Derived.Test.YthoedmikfpbfnaaGreatRows
import Derived.JoinedOf
import Derived.KernelRfl
import Derived.OrdersHeld
import Derived.Below
import Derived.Laws.CopyRow
import Derived.Laws.Cells
import Derived.Laws.Entries
import Derived.Deep.MidRow
import Derived.Laws.StructEq
import Derived.Test.YthoedmikfpbfnaaGreatProg
import Derived.WalkKit
import Derived.WalkLawsBesides
import Derived.WalkSpells
import Derived.Lib.Hide
import Derived.Lib.SmallJoins
import Derived.Deep.QuietTactic
import Derived.BigQuiet
import Derived.WalkSmall
set_option linter.unusedVariables false
set_option linter.unusedSimpArgs false
section
set_option linter.unusedVariables false
namespace Go.Proofs.YthoedmikfpbfnaaGreat
theorem yF {p : Prop} (h : p := by first | assumption | omega) : p := h
theorem yW {p : Prop} (h : p := by first | assumption | (unfold W128; omega)) : p := h
theorem yB {p : Prop} (h : p := by unfold Bits; decide) : p := h
theorem yX {p : Prop} (h : p := by repeat (first | exact Ext.refl _ | refine Ext.alloc ?_ | refine Ext.drew ?_ | refine Ext.drewN ?_ | refine Ext.set ?_ (Ext.size ?_) | refine Ext.set ?_ (Ext.size1 ?_) | refine Ext.set ?_ (Ext.size2 ?_) | refine Ext.trans ?_ (by assumption))) : p := h
end Go.Proofs.YthoedmikfpbfnaaGreat
end
section
/-
  What the program's head says, word by word: the program is a plain cut; nothing is lifted.
-/
namespace Go.Proofs.YthoedmikfpbfnaaGreat
open Go

theorem words_step (a : List Char) (h : a.all (fun c => !(c == Char.ofNat 32)) = true) (r : List Char) : wordsSigns (a ++ Char.ofNat 32 :: r) = a :: wordsSigns r := by
  induction a with
  | nil => rfl
  | cons c a ih =>
    simp only [List.all_cons, Bool.and_eq_true] at h
    have hc : c ≠ Char.ofNat 32 := by simpa using h.1
    rw [List.cons_append, wordsSigns.eq_3 _ _ (fun e => hc e), ih h.2]
def headA : List Char := [104, 97, 114, 110, 101, 115, 115].map Char.ofNat
def headB : List Char := [54, 51, 48, 50, 57, 100, 50, 57, 55, 53, 57, 97, 55, 52, 97, 54, 55, 51, 50, 102, 99, 101, 55, 51, 52, 98, 102, 101, 99, 52, 57, 99, 56, 51, 99, 100, 98, 97, 48, 57, 52, 48, 53, 98, 99, 57, 52, 99, 54, 54, 54, 52, 57, 52, 56, 54, 48, 97, 57, 57, 56, 51, 100, 53].map Char.ofNat
def headC : List Char := [99, 117, 116].map Char.ofNat
def headR : List Char := [97, 116, 32, 97, 110, 97, 108, 101, 109, 109, 97, 47, 97, 110, 97, 108, 101, 109, 109, 97, 108, 97, 119, 50, 48, 46, 82, 101, 108, 97, 116, 105, 118, 101, 77, 111, 118, 101, 115, 32, 97, 110, 97, 108, 101, 109, 109, 97, 47, 97, 110, 97, 108, 101, 109, 109, 97, 108, 97, 119, 50, 48, 46, 82, 101, 108, 97, 116, 105, 118, 101, 84, 111, 116, 97, 108, 115, 32, 97, 110, 97, 108, 101, 109, 109, 97, 47, 97, 110, 97, 108, 101, 109, 109, 97, 108, 97, 119, 50, 48, 46, 82, 101, 108, 97, 116, 105, 118, 101, 82, 111, 117, 110, 100, 115, 32, 97, 110, 97, 108, 101, 109, 109, 97, 47, 97, 110, 97, 108, 101, 109, 109, 97, 108, 97, 119, 50, 48, 46, 82, 101, 108, 97, 116, 105, 118, 101, 83, 105, 103, 110, 115].map Char.ofNat
theorem head_order : Tryz.prog.initOrder = String.ofList (headA ++ Char.ofNat 32 :: (headB ++ Char.ofNat 32 :: (headC ++ Char.ofNat 32 :: headR))) := by kernel_rfl
theorem head_words : wordsSigns Tryz.prog.initOrder.toList = headA :: headB :: headC :: wordsSigns headR := by
  rw [head_order, String.toList_ofList, words_step _ (by kernel_rfl), words_step _ (by kernel_rfl), words_step _ (by kernel_rfl)]
theorem head_behind (R : List (List Char)) : behindMainWord (headA :: headB :: headC :: R) = headC :: R := by
  have e : ((headA == "harness".toList || headA == "ownmain".toList) && isSumSigns headB) = true := by kernel_rfl
  simp only [behindMainWord, e, if_true]
theorem head_strip (R : List (List Char)) : stripLifts liftWords (headC :: R) = ([], headC :: R) := by rfl
theorem make_of {P : Program} {R : List (List Char)} (h : behindMainWord (wordsSigns P.initOrder.toList) = headC :: R) : P.make = some .cut := by
  unfold Program.make
  rw [h]
  rfl
theorem lifts_of {P : Program} {R : List (List Char)} (h : behindMainWord (wordsSigns P.initOrder.toList) = headC :: R) : P.liftsFinal = false := by
  unfold Program.liftsFinal Program.headLifts
  rw [h]
  simp only [head_strip]
  rfl
theorem may_of {P : Program} {R : List (List Char)} (h : behindMainWord (wordsSigns P.initOrder.toList) = headC :: R) (h1 : P.laysLater = false) (h2 : P.bearsReflect = false) (h3 : P.doorFits [] = true) : P.mayEnter = true := by
  unfold Program.mayEnter
  rw [h]
  simp only [head_strip, h1, h2, h3]
  rfl
theorem head_is : behindMainWord (wordsSigns Tryz.prog.initOrder.toList) = headC :: wordsSigns headR := by
  rw [head_words, head_behind]
theorem head_make : Tryz.prog.make = some .cut := make_of head_is
theorem head_lifts : Tryz.prog.liftsFinal = false := lifts_of head_is
theorem head_may : Tryz.prog.mayEnter = true := may_of head_is (by kernel_rfl) (by kernel_rfl) (by kernel_rfl)
end Go.Proofs.YthoedmikfpbfnaaGreat
end
section
namespace Go.Ev
open Go Go.RowKit

/-- What a closure has captured: a pointer into a block of the call's own, or a value. -/
inductive Cp where
 | ptr (b o : Nat)
 | val (v : Value)
/-- A cell of an array that holds closures. -/
inductive Ce where
 | val (v : Value)
 | clo (f : FuncId) (cs : List Cp)
/-- What a slot or a cell holds. -/
inductive SV where
 | val (v : Value)
 | ptr (b o : Nat)
 | clo (f : FuncId) (cs : List Cp)
 | row (cs : List Ce)
 | sl (b o l c : Nat)
 | any
structure Bk where
 cells : List SV
 t : TypeId

def Cp.at (r : Nat → Nat) : Cp → Value
 | .ptr b o => .pointer (some ⟨r b, o, none⟩)
 | .val v => v
def Cp.Fresh (N : Nat → Prop) : Cp → Prop
 | .ptr b _ => ¬ N b
 | .val _ => True
def Ce.at (r : Nat → Nat) : Ce → Value
 | .val v => v
 | .clo f cs => .func (.func f) #[] (cs.map (Cp.at r)).toArray
def Ce.Fresh (N : Nat → Prop) : Ce → Prop
 | .val _ => True
 | .clo _ cs => ∀ c ∈ cs, c.Fresh N
def Ce.sv : Ce → SV
 | .val v => .val v
 | .clo f cs => .clo f cs
def SV.Is (r : Nat → Nat) : SV → Value → Prop
 | .val v, u => u = v
 | .ptr b o, u => u = .pointer (some ⟨r b, o, none⟩)
 | .clo f cs, u => u = .func (.func f) #[] (cs.map (Cp.at r)).toArray
 | .row cs, u => u = .agg (cs.map (Ce.at r)).toArray
 | .sl b o l c, u => u = .slice (some ⟨r b, o, none⟩) l c
 | .any, _ => True
def SV.Fresh (N : Nat → Prop) : SV → Prop
 | .ptr b _ => ¬ N b
 | .sl b _ _ _ => ¬ N b
 | .clo _ cs => ∀ c ∈ cs, c.Fresh N
 | .row cs => ∀ c ∈ cs, c.Fresh N
 | _ => True
def SV.Ok (r : Nat → Nat) (N : Nat → Prop) (s : SV) (u : Value) : Prop := s.Is r u ∧ s.Fresh N
theorem Cp.Fresh.mono {N N' : Nat → Prop} (hN : ∀ b, N' b → N b) {c : Cp} (h : c.Fresh N) : c.Fresh N' := by
 cases c with
 | ptr b o => exact fun k => h (hN b k)
 | val v => trivial
theorem Cp.re {r r' : Nat → Nat} {N : Nat → Prop} (hr : ∀ b, ¬ N b → r' b = r b) {cs : List Cp} (h : ∀ c ∈ cs, c.Fresh N) : cs.map (Cp.at r') = cs.map (Cp.at r) := by
 apply List.map_congr_left
 intro c hc
 have := h c hc
 cases c with
 | ptr b o => simp only [Cp.at]; rw [hr b this]
 | val v => rfl
theorem Ce.sv_ok {r : Nat → Nat} {N : Nat → Prop} {c : Ce} (h : c.Fresh N) : c.sv.Is r (c.at r) ∧ c.sv.Fresh N := by
 cases c with
 | val v => exact ⟨rfl, trivial⟩
 | clo f cs => exact ⟨rfl, h⟩
theorem SV.Fresh.mono {N N' : Nat → Prop} (hN : ∀ b, N' b → N b) {s : SV} (h : s.Fresh N) : s.Fresh N' := by
 cases s with
 | ptr b o => exact fun k => h (hN b k)
 | sl b o l c => exact fun k => h (hN b k)
 | clo f cs =>
  intro c hc
  have := h c hc
  exact Cp.Fresh.mono hN this
 | row cs =>
  intro c hc
  have := h c hc
  cases c with
  | val v => trivial
  | clo f cs' => exact fun q hq => Cp.Fresh.mono hN (this q hq)
 | _ => trivial
theorem SV.Is.re {r r' : Nat → Nat} {N : Nat → Prop} (hr : ∀ b, ¬ N b → r' b = r b) {s : SV} {u : Value} (h : s.Is r u) (hf : s.Fresh N) : s.Is r' u := by
 cases s with
 | val v => exact h
 | ptr b o => simp only [SV.Is] at *; rw [hr b hf]; exact h
 | sl b o l c => simp only [SV.Is] at *; rw [hr b hf]; exact h
 | clo f cs =>
  simp only [SV.Is] at *
  rw [h]
  congr 2
  apply List.map_congr_left
  intro c hc
  have := hf c hc
  cases c with
  | ptr b o => simp only [Cp.at]; rw [hr b this]
  | val v => rfl
 | row cs =>
  simp only [SV.Is] at *
  rw [h]
  congr 2
  apply List.map_congr_left
  intro c hc
  have := hf c hc
  cases c with
  | val v => rfl
  | clo f cs' => simp only [Ce.at]; rw [Cp.re hr this]
 | any => trivial

structure FrOk (r : Nat → Nat) (N : Nat → Prop) (fr : List SV) (D : Nat → Prop) (a : Act) : Prop where
 size : a.tmps.size = fr.length
 at_ : ∀ (t : Nat) (s : SV), fr[t]? = some s → ¬ D t → ∃ u, a.tmps[t]? = some u ∧ SV.Ok r N s u
 nod : a.defers = []
def CellsOk (r : Nat → Nat) (N : Nat → Prop) (ss : List SV) (cs : Array Value) : Prop := cs.size = ss.length ∧ ∀ (i : Nat) (s : SV), ss[i]? = some s → ∃ u, cs[i]? = some u ∧ SV.Ok r N s u
def BkIs (r : Nat → Nat) (N : Nat → Prop) (w : World) (k : Nat) (B : Bk) : Prop := ∃ cs : Array Value, w.heap[k]? = some (.cells cs B.t (0, 0)) ∧ CellsOk r N B.cells cs
structure BlOk (r : Nat → Nat) (N : Nat → Prop) (bl : List Bk) (base : TypeId → Nat) (w : World) : Prop where
 is : ∀ (b : Nat) (B : Bk), bl[b]? = some B → ¬ N b → base B.t ≤ r b ∧ BkIs r N w (r b) B
 inj : ∀ b b' : Nat, b < bl.length → b' < bl.length → ¬ N b → ¬ N b' → r b = r b' → b = b'

def pureOf {α : Type} (P : Program) : Sem α → Option α
 | .pure a => some a
 | .program k => pureOf P (k P)
 | .mark _ k => pureOf P k
 | _ => none
theorem pureOf_run {α : Type} {P : Program} {s : Sem α} {a : α} (h : pureOf P s = some a) (w : World) : s.run P w = .ok a w := by
 induction s with
 | pure x => simp only [pureOf, Option.some.injEq] at h; subst h; rfl
 | program k ih => exact ih P h
 | mark m k ih => exact ih h
 | _ => cases h

def SV.isVal : SV → Bool
 | .val _ => true
 | _ => false
def SV.v : SV → Value
 | .val v => v
 | _ => undef
def opS (fr : List SV) : Operand → SV
 | .tmp t => (fr[t]?).getD .any
 | .const v => .val v
 | .global g => .val (.pointer (some ⟨g, 0, none⟩))
 | .func f => .clo f []
def noSel : Op → Bool
 | .select _ _ => false
 | _ => true
def pureEv (P : Program) (fr : List SV) (o : Oper) : Option Value :=
 match noSel o.op && o.op.operands.all (fun x => (opS fr x).isVal) with
 | false => none
 | true => match pureOf P (execOp (fun x => (opS fr x).v) o) with
  | some (.value v) => some v
  | _ => none

inductive Eff where
 | value (s : SV)
 | alloc (B : Bk) (kd : Option Nat)
 | store (b o : Nat) (vs : List SV)

def mkS (b : Nat) : Option Nat → SV
 | none => .ptr b 0
 | some n => .sl b 0 n n
def mkV (k : Nat) : Option Nat → Value
 | none => .pointer (some ⟨k, 0, none⟩)
 | some n => .slice (some ⟨k, 0, none⟩) n n
theorem mkS_ok {r : Nat → Nat} {N : Nat → Prop} {b k : Nat} {kd : Option Nat} (h : r b = k) (hn : ¬ N b) : (mkS b kd).Ok r N (mkV k kd) := by
 subst h
 cases kd with
 | none => exact ⟨rfl, hn⟩
 | some n => exact ⟨rfl, hn⟩
def valsOf : List SV → Option (List Value)
 | [] => some []
 | .val v :: l => match valsOf l with
  | some vs => some (v :: vs)
  | none => none
 | _ => none
def loadS (P : Program) (T : TypeId) (cells : List SV) (n : Nat) : Option Eff :=
 match P.underlying T with
 | none => none
 | some d => match d.isRow with
  | false => match cells[n]? with
   | some s => some (.value s)
   | none => none
  | true => match P.info? T with
   | none => none
   | some i => match valsOf ((cells.drop n).take i.size) with
    | none => none
    | some vs => match Nat.beq vs.length i.size with
     | true => some (.value (.val (.agg vs.toArray)))
     | false => none
def storeS (P : Program) (T : TypeId) (s : SV) : Option (List SV) :=
 match P.info? T with
 | none => none
 | some i => match s with
  | .val v => match Nat.beq v.cells.size i.size && v.cells.toList.all (·.oneCell') with
   | true => some (v.cells.toList.map .val)
   | false => none
  | .row cs => match Nat.beq cs.length i.size && cs.all (fun c => match c with | .val v => v.oneCell' | .clo _ _ => true) with
   | true => some (cs.map Ce.sv)
   | false => none
  | .any => none
  | s => match Nat.beq 1 i.size with
   | true => some [s]
   | false => none
def fieldOff (P : Program) (T : TypeId) (f : Nat) : Option Nat :=
 match P.underlying T with
 | some (.struct fs) => match fs[f]? with
  | none => none
  | some fl => match P.info? fl.type with
   | none => none
   | some i => match Nat.beq i.size 0 with
    | true => none
    | false => some fl.offset
 | _ => none
def indexOff (P : Program) (T : TypeId) (i : Int) : Option Nat :=
 match P.underlying T with
 | some (.array len e) => match P.info? e with
  | none => none
  | some inf => match i with
   | .ofNat n => match Nat.blt n len with
    | true => some (n * inf.size)
    | false => none
   | _ => none
 | _ => none
def indexOffS (P : Program) (T : TypeId) (len : Nat) (i : Int) : Option Nat :=
 match P.underlying T with
 | some (.slice e) => match P.info? e with
  | none => none
  | some inf => match i with
   | .ofNat n => match Nat.blt n len with
    | true => some (n * inf.size)
    | false => none
   | _ => none
 | _ => none
def bndS (fr : List SV) (d : Nat) : Option Operand → Option Nat
 | none => some d
 | some x => match opS fr x with
  | .val (.int _ (.ofNat n)) => some n
  | _ => none
def sliceS (P : Program) (fr : List SV) (T : TypeId) (l c : Nat) (lo hi mx : Option Operand) : Option (Nat × Nat × Nat) :=
 match P.underlying T with
 | some (.slice e) => match P.info? e with
  | none => none
  | some inf => match mx with
   | some _ => none
   | none => match bndS fr l hi with
    | none => none
    | some h => match bndS fr 0 lo with
     | none => none
     | some l0 => match Nat.ble h c && Nat.ble l0 h && !Nat.beq c l0 with
      | true => some (l0 * inf.size, h - l0, c - l0)
      | false => none
 | _ => none
def cellsS : SV → Option (List SV)
 | .val v => some (v.cells.toList.map .val)
 | .row _ => none
 | .any => none
 | s => some [s]
def fillS (fr : List SV) (sz : Nat) (cs : List SV) : List (Nat × Operand) → Option (List SV)
 | [] => some cs
 | (i, x) :: l => match cellsS (opS fr x) with
  | none => none
  | some vs => match Nat.beq vs.length sz && Nat.ble (i * sz + sz) cs.length with
   | true => fillS fr sz (cs.take (i * sz) ++ vs ++ cs.drop (i * sz + sz)) l
   | false => none
def rowS (P : Program) (fr : List SV) (T : TypeId) (len : Nat) (parts : List (Nat × Operand)) : Option Bk := match P.underlying T with
 | some (.slice e) => match P.info? e with
  | some i => match Nat.ble (len * i.size) (2 ^ 24) && !Nat.beq (len * i.size) 0 with
   | true => match pureOf P (zeroValue e) with
    | some z => match fillS fr i.size (((Array.range (len * i.size)).map (z.cells[· % z.cells.size]!)).toList.map .val) parts with
     | some cs => some ⟨cs, e⟩
     | none => none
    | none => none
   | false => none
  | none => none
 | _ => none
def lenS (P : Program) (fr : List SV) (c : Call) : Option Nat := match c.callee with
 | .builtin .len => match c.argTypes[0]? with
  | some T => match P.underlying T with
   | some (.slice _) => match c.args[0]? with
    | some x => match opS fr x with
     | .sl _ _ l _ => some l
     | _ => none
    | none => none
   | _ => none
  | none => none
 | _ => none
def fillC (fr : List SV) (cs : List Ce) : List (Nat × Operand) → Option (List Ce)
 | [] => some cs
 | (i, x) :: l => match Nat.blt i cs.length with
  | false => none
  | true => match opS fr x with
   | .val v => match v.oneCell' with
    | true => fillC fr (cs.set i (.val v)) l
    | false => none
   | .clo f q => fillC fr (cs.set i (.clo f q)) l
   | _ => none
def rowEv (P : Program) (fr : List SV) (T : TypeId) (parts : List (Nat × Operand)) : Option (List Ce) := match P.underlying T with
 | some (.array _ e) => match P.info? e with
  | some i => match Nat.beq i.size 1 with
   | true => match pureOf P (zeroValue T) with
    | some z => fillC fr (z.cells.toList.map .val) parts
    | none => none
   | false => none
  | none => none
 | _ => none
def capsOf (fr : List SV) : List Operand → Option (List Cp)
 | [] => some []
 | x :: l => match opS fr x, capsOf fr l with
  | .val v, some cs => some (.val v :: cs)
  | .ptr b n, some cs => some (.ptr b n :: cs)
  | _, _ => none

def partS (P : Program) (t : TypeId) (cs : Array Value) (off : Nat) : Option Value := match P.underlying t with
 | none => none
 | some d => match d.isRow with
  | true => match P.info? t with
   | some i => some (.agg (cs.extract off (off + i.size)))
   | none => none
  | false => cs[off]?
def eqFs (P : Program) (eq : TypeId → Value → Value → Option Bool) (xs ys : Array Value) : List Field → Option Bool
 | [] => some true
 | f :: fs => match decide (f.name = "_") with
  | true => eqFs P eq xs ys fs
  | false => match partS P f.type xs f.offset with
   | none => none
   | some a => match partS P f.type ys f.offset with
    | none => none
    | some b => match eq f.type a b with
     | none => none
     | some r => match eqFs P eq xs ys fs with
      | none => none
      | some s => some (r && s)
def eqS (P : Program) : Nat → TypeId → Value → Value → Option Bool
 | 0, _, _, _ => none
 | d + 1, t, x, y => match P.underlying t with
  | some .bool => match x, y with
   | .bool a, .bool b => some (a == b)
   | _, _ => none
  | some (.int _) => match x, y with
   | .int k a, .int k' b => match decide (k = k') with
    | true => some (a == b)
    | false => none
   | _, _ => none
  | some (.struct fs) => match x, y with
   | .agg xs, .agg ys => match P.stoodInHeld t with
    | false => eqFs P (eqS P d) xs ys fs.toList
    | true => none
   | _, _ => none
  | _ => none
def eqEv (P : Program) (T : TypeId) (xs ys : Array Value) : Option Bool := match P.eqGuardType P.depth T with
 | true => none
 | false => eqS P 10000 T (.agg xs) (.agg ys)

def evOp (P : Program) (fr : List SV) (bl : List Bk) (o : Oper) : Option Eff :=
 match o.op with
 | .move x | .assign x => some (.value (opS fr x))
 | .nilCheck x => match opS fr x with
  | .ptr b n => some (.value (.ptr b n))
  | .val (.pointer (some ad)) => some (.value (.val (.pointer (some ad))))
  | _ => none
 | .alloc T => match pureOf P (zeroValue T) with
  | some z => some (.alloc ⟨z.cells.toList.map .val, T⟩ none)
  | none => none
 | .box T x => match opS fr x with
  | .val v => some (.alloc ⟨v.cells.toList.map .val, T⟩ none)
  | .any => none
  | .row _ => none
  | s => some (.alloc ⟨[s], T⟩ none)
 | .load T x => match opS fr x with
  | .ptr b n => match bl[b]? with
   | some B => loadS P T B.cells n
   | none => none
  | _ => none
 | .store T x y => match opS fr x with
  | .ptr b n => match bl[b]? with
   | some B => match storeS P T (opS fr y) with
    | some vs => match Nat.ble (n + vs.length) B.cells.length with
     | true => some (.store b n vs)
     | false => none
    | none => none
   | none => none
  | _ => none
 | .fieldAddr T x f => match opS fr x with
  | .ptr b n => match fieldOff P T f with
   | some k => some (.value (.ptr b (n + k)))
   | none => none
  | .val (.pointer (some ⟨b, n, none⟩)) => match fieldOff P T f with
   | some k => some (.value (.val (.pointer (some ⟨b, n + k, none⟩))))
   | none => none
  | _ => none
 | .indexAddr T x i => match opS fr x with
  | .ptr b n => match opS fr i with
   | .val (.int k i) => match indexOff P T i with
    | some d => some (.value (.ptr b (n + d)))
    | none => none
   | _ => none
  | .sl b n len _ => match opS fr i with
   | .val (.int k i) => match indexOffS P T len i with
    | some d => some (.value (.ptr b (n + d)))
    | none => none
   | _ => none
  | _ => none
 | .slice T x lo hi mx => match opS fr x with
  | .sl b n l c => match sliceS P fr T l c lo hi mx with
   | some (d, l', c') => some (.value (.sl b (n + d) l' c'))
   | none => none
  | _ => match pureEv P fr o with
   | some v => some (.value (.val v))
   | none => none
 | .buildSlice T len parts => match rowS P fr T len parts.toList with
  | some B => some (.alloc B (some len))
  | none => none
 | .makeFunc (.func f) first caps => match first.toList with
  | [] => match capsOf fr caps.toList with
   | some cs => some (.value (.clo f cs))
   | none => none
  | _ => none
 | .build T parts => match pureEv P fr o with
  | some v => some (.value (.val v))
  | none => match rowEv P fr T parts.toList with
   | some cs => some (.value (.row cs))
   | none => none
 | .binOp op T x y _ => match op, opS fr x, opS fr y with
  | .eql, .val (.agg xs), .val (.agg ys) => match eqEv P T xs ys with
   | some b => some (.value (.val (.bool b)))
   | none => none
  | .neq, .val (.agg xs), .val (.agg ys) => match eqEv P T xs ys with
   | some b => some (.value (.val (.bool (!b))))
   | none => none
  | _, _, _ => match pureEv P fr o with
   | some v => some (.value (.val v))
   | none => none
 | .call c => match c.callee with
  | .builtin _ => match pureEv P fr o with
   | some v => some (.value (.val v))
   | none => match lenS P fr c with
    | some n => some (.value (.val (.int .i64 n)))
    | none => none
  | _ => none
 | _ => match pureEv P fr o with
  | some v => some (.value (.val v))
  | none => none

def opTmps (o : Oper) : List Nat := o.op.operands.toList.filterMap fun | .tmp t => some t | _ => none

section
variable {P : Program} {r : Nat → Nat} {N : Nat → Prop} {fr : List SV} {D : Nat → Prop} {a : Act} {bl : List Bk} {base : TypeId → Nat} {w : World}

theorem opS_ok (hfr : FrOk r N fr D a) {x : Operand} (hx : ∀ t, x = .tmp t → ¬ D t) : (opS fr x).Ok r N (a.eval x) := by
 cases x with
 | tmp t =>
  simp only [opS, Act.eval]
  cases h : fr[t]? with
  | none => exact ⟨trivial, trivial⟩
  | some s =>
   obtain ⟨u, hu, ho⟩ := hfr.at_ t s h (hx t rfl)
   have : a.tmps.getD t undef = u := by simp [Array.getD_eq_getD_getElem?, hu]
   rw [this]; exact ho
 | const v => exact ⟨rfl, trivial⟩
 | global g => exact ⟨rfl, trivial⟩
 | func f => exact ⟨rfl, fun c hc => by cases hc⟩

theorem mem_opTmps {o : Oper} {t : Nat} (h : Operand.tmp t ∈ o.op.operands) : t ∈ opTmps o :=
 List.mem_filterMap.2 ⟨.tmp t, by simpa using h, rfl⟩

theorem SV.isVal_eq {s : SV} (h : s.isVal = true) : s = .val s.v := by cases s <;> first | rfl | cases h

theorem pureEv_ok {o : Oper} {v : Value} (h : pureEv P fr o = some v) (hfr : FrOk r N fr D a) (hop : ∀ t ∈ opTmps o, ¬ D t) :
  (execOp a.eval o).run P w = .ok (.value v) w := by
 unfold pureEv at h
 split at h
 ·cases h
 ·rename_i hc
  simp only [Bool.and_eq_true] at hc
  split at h
  ·rename_i u hu
   obtain rfl : u = v := by simpa using h
   have e : execOp a.eval o = execOp (fun x => (opS fr x).v) o := by
    refine execOp_congr o (fun cs b hs => ?_) fun x hx => ?_
    ·rw [hs] at hc; cases hc.1
    ·have h1 := Array.all_eq_true_iff_forall_mem.1 hc.2 x hx
     have h2 := (opS_ok (x := x) hfr fun t ht => hop t (mem_opTmps (ht ▸ hx))).1
     rw [SV.isVal_eq h1] at h2
     exact h2
   rw [e]; exact pureOf_run hu w
  ·cases h

theorem valsOf_map : ∀ {l : List SV} {vs : List Value}, valsOf l = some vs → l = vs.map .val
 | [], vs, h => by simp only [valsOf, Option.some.injEq] at h; subst h; rfl
 | .val v :: l, vs, h => by
  simp only [valsOf] at h
  split at h
  ·rename_i us hu
   obtain rfl : v :: us = vs := by simpa using h
   rw [valsOf_map hu]; rfl
  ·cases h
 | .ptr _ _ :: l, vs, h => by cases h
 | .clo _ _ :: l, vs, h => by cases h
 | .row _ :: l, vs, h => by cases h
 | .any :: l, vs, h => by cases h

theorem cellsOk_vals (cs : Array Value) : CellsOk r N (cs.toList.map .val) cs := by
 refine ⟨by simp, fun i s h => ?_⟩
 simp only [List.getElem?_map, Option.map_eq_some_iff] at h
 obtain ⟨u, hu, rfl⟩ := h
 exact ⟨u, by simpa using hu, rfl, trivial⟩

theorem isAgg_run {T : TypeId} {d : TypeDesc} (h : P.underlying T = some d) : (isAgg T).run P w = .ok d.isRow w := by
 unfold isAgg
 rw [Sem.run_bind, run_underlying h w]
 cases d <;> rfl

theorem loadS_ok {T : TypeId} {B : Bk} {n k : Nat} {e : Eff} (h : loadS P T B.cells n = some e) (hb : BkIs r N w k B) :
  ∃ s, e = .value s ∧ ∃ u, s.Ok r N u ∧ (loadVar T ⟨k, n, none⟩).run P w = .ok u w := by
 obtain ⟨cs, hk, hsz, hcs⟩ := hb
 unfold loadS at h
 split at h
 ·cases h
 ·rename_i d hd
  split at h
  ·rename_i hrow
   split at h
   ·rename_i s hs
    obtain rfl : Eff.value s = e := by simpa using h
    obtain ⟨u, hu, ho⟩ := hcs n s hs
    refine ⟨s, rfl, u, ho, ?_⟩
    have hc : w.cell? ⟨k, n, none⟩ = some u := by simp [World.cell?, hk, hu]
    simp [loadVar, Sem.run_bind, isAgg_run hd, hrow, run_load, hc]
   ·cases h
  ·rename_i hrow
   split at h
   ·cases h
   ·rename_i i hi
    split at h
    ·cases h
    ·rename_i vs hvs
     split at h
     ·rename_i hlen
      obtain rfl : Eff.value (.val (.agg vs.toArray)) = e := by simpa using h
      have hlen' : vs.length = i.size := Nat.eq_of_beq_eq_true hlen
      refine ⟨_, rfl, _, ⟨rfl, trivial⟩, ?_⟩
      refine run_loadVar_mid (P := P) w k n T vs d ?_ hd hrow (by simp [hi, hlen'])
      intro j v hv
      have e1 := valsOf_map hvs
      have hj : ((B.cells.drop n).take i.size)[j]? = some (.val v) := by rw [e1]; simp [hv]
      rw [List.getElem?_take] at hj
      split at hj
      ·rw [List.getElem?_drop] at hj
       obtain ⟨u, hu, ho, -⟩ := hcs _ _ hj
       obtain rfl : u = v := ho
       simp [World.cell?, hk, hu]
      ·cases hj
     ·cases h

theorem oneCell_cells {v : Value} (h : v.oneCell' = true) : v.cells = #[v] := by cases v <;> first | rfl | cases h
theorem map_set_at (r : Nat → Nat) (cs : List Ce) (i : Nat) (c : Ce) : ((cs.set i c).map (Ce.at r)).toArray = ((cs.map (Ce.at r)).toArray).setIfInBounds i (c.at r) := by
 apply Array.ext'
 simp [List.map_set]
theorem fill_step {place : Nat → Option (Nat × Nat)} {cs : Array Value} {i : Nat} {v : Value} {l : List (Nat × Value)} (hp : place i = some (i, 1)) (hv : v.cells = #[v]) (hi : i < cs.size) :
  Instr.fill place cs ((i, v) :: l) = Instr.fill place (cs.setIfInBounds i v) l := by
 simp only [Instr.fill, hp, hv]
 rw [if_neg (by simp; omega)]
 rfl
theorem fillC_ok (hfr : FrOk r N fr D a) {place : Nat → Option (Nat × Nat)} (hp : ∀ i, place i = some (i, 1)) : ∀ {l : List (Nat × Operand)} {cs cs' : List Ce}, fillC fr cs l = some cs' → (∀ p ∈ l, ∀ t, p.2 = .tmp t → ¬ D t) → (∀ c ∈ cs, c.Fresh N) →
  Instr.fill place (cs.map (Ce.at r)).toArray (l.map fun p => (p.1, a.eval p.2)) = some (cs'.map (Ce.at r)).toArray ∧ ∀ c ∈ cs', c.Fresh N
 | [], cs, cs', h, _, hc => by simp only [fillC, Option.some.injEq] at h; subst h; exact ⟨rfl, hc⟩
 | (i, x) :: l, cs, cs', h, hD, hc => by
  simp only [fillC] at h
  have hx := opS_ok (x := x) hfr fun t ht => hD (i, x) (by simp) t ht
  split at h
  ·cases h
  ·rename_i hlt
   have hlt' : i < cs.length := by simpa [Nat.blt_eq] using hlt
   have memS : ∀ (c : Ce), c.Fresh N → ∀ q ∈ cs.set i c, q.Fresh N := fun c hcf q hq => by
    rcases List.mem_or_eq_of_mem_set hq with h1 | h1
    ·exact hc q h1
    ·rw [h1]; exact hcf
   split at h
   ·rename_i v hv
    rw [hv] at hx
    have e : a.eval x = v := hx.1
    split at h
    ·rename_i h1
     have ih := fillC_ok hfr hp h (fun p hpl => hD p (List.mem_cons_of_mem _ hpl)) (memS (.val v) trivial)
     rw [map_set_at] at ih
     simp only [List.map_cons, e]
     rw [fill_step (hp i) (oneCell_cells h1) (by simpa using hlt')]
     exact ih
    ·cases h
   ·rename_i f q hv
    rw [hv] at hx
    have e : a.eval x = _ := hx.1
    have ih := fillC_ok hfr hp h (fun p hpl => hD p (List.mem_cons_of_mem _ hpl)) (memS (.clo f q) hx.2)
    rw [map_set_at] at ih
    simp only [List.map_cons, e]
    rw [fill_step (hp i) rfl (by simpa using hlt')]
    exact ih
   ·cases h
theorem rowEv_ok {T : TypeId} {parts : Array (Nat × Operand)} {cs : List Ce} (h : rowEv P fr T parts.toList = some cs) (hfr : FrOk r N fr D a) (hD : ∀ p ∈ parts.toList, ∀ t, p.2 = Operand.tmp t → ¬ D t) :
  (Instr.build T (parts.map fun (i, x) => (i, a.eval x))).run P w = .ok (.agg (cs.map (Ce.at r)).toArray) w ∧ ∀ c ∈ cs, c.Fresh N := by
 unfold rowEv at h
 split at h
 ·rename_i len e hu
  split at h
  ·rename_i i hi
   split at h
   ·rename_i h1
    have hs : i.size = 1 := Nat.eq_of_beq_eq_true h1
    split at h
    ·rename_i z hz
     have hp : ∀ j, (fun j => some (j * i.size, i.size)) j = some (j, 1) := fun j => by simp [hs]
     obtain ⟨k1, k2⟩ := fillC_ok (a := a) hfr hp h hD (fun c hc => by
      obtain ⟨v, _, rfl⟩ := List.mem_map.1 hc
      trivial)
     have e0 : ((z.cells.toList.map Ce.val).map (Ce.at r)).toArray = z.cells := by
      apply Array.ext'
      simp [Ce.at, Function.comp_def]
     rw [e0] at k1
     refine ⟨?_, k2⟩
     have e1 : (parts.map fun (i, x) => (i, a.eval x)).toList = parts.toList.map fun p => (p.1, a.eval p.2) := by simp
     simp only [Instr.build, Sem.run_bind, pureOf_run hz w, Result.andThen_ok, run_underlying hu w]
     have e2 : (sizeOf e).run P w = .ok i.size w := by simp [sizeOf, typeInfo, hi]
     simp only [e2, Result.andThen_ok, e1]
     rw [k1]
     rfl
    ·cases h
   ·cases h
  ·cases h
 ·cases h
theorem part_run {t : TypeId} {cs : Array Value} {off : Nat} {v : Value} (h : partS P t cs off = some v) : (part t cs off).run P w = .ok v w := by
 unfold partS at h
 split at h
 ·cases h
 ·rename_i d hd
  split at h
  ·rename_i hrow
   split at h
   ·rename_i i hi
    obtain rfl : Value.agg (cs.extract off (off + i.size)) = v := by simpa using h
    simp [part, Sem.run_bind, isAgg_run hd, hrow, sizeOf, typeInfo, hi]
   ·cases h
  ·rename_i hrow
   simp [part, Sem.run_bind, isAgg_run hd, hrow, h]
theorem eqFs_run {d : Nat} {eq : TypeId → Value → Value → Option Bool} (heq : ∀ t x y b, eq t x y = some b → ∀ w, (Op.equalIn d t x y).run P w = .ok b w) {xs ys : Array Value} : ∀ {fs : List Field} {b : Bool}, eqFs P eq xs ys fs = some b →
  (Op.eqFields d xs ys fs).run P w = .ok b w
 | [], b, h => by simp only [eqFs, Option.some.injEq] at h; subst h; rfl
 | f :: fs, b, h => by
  simp only [eqFs] at h
  split at h
  ·rename_i hn
   have hn' : f.name = "_" := of_decide_eq_true hn
   simp only [Op.eqFields, hn', ne_eq, not_true, if_false]
   exact eqFs_run heq h
  ·rename_i hn
   have hn' : f.name ≠ "_" := of_decide_eq_false hn
   split at h
   ·cases h
   ·rename_i a ha
    split at h
    ·cases h
    ·rename_i c hc
     split at h
     ·cases h
     ·rename_i r hr
      split at h
      ·cases h
      ·rename_i s hs
       obtain rfl : (r && s) = b := by simpa using h
       simp only [Op.eqFields, ne_eq, hn', not_false_eq_true, if_true, Sem.run_bind, part_run ha, part_run hc, heq _ _ _ _ hr w, Result.andThen_ok]
       cases r
       ·simp
       ·simp only [Bool.not_true, Bool.false_eq_true, if_false, Bool.true_and]
        exact eqFs_run heq hs
theorem eqS_run : ∀ {d : Nat} {t : TypeId} {x y : Value} {b : Bool}, eqS P d t x y = some b → ∀ w, (Op.equalIn d t x y).run P w = .ok b w
 | 0, t, x, y, b, h, w => by cases h
 | d + 1, t, x, y, b, h, w => by
  simp only [eqS] at h
  split at h
  ·rename_i hu
   split at h
   ·rename_i a c
    obtain rfl : (a == c) = b := by simpa using h
    exact run_equalIn_bool w d t a c hu
   ·cases h
  ·rename_i k0 hu
   split at h
   ·rename_i k a k' c
    split at h
    ·rename_i hk
     have hk' : k = k' := of_decide_eq_true hk
     subst hk'
     obtain rfl : (a == c) = b := by simpa using h
     exact run_equalIn_int w d t k k0 a c hu
    ·cases h
   ·cases h
  ·rename_i fs hu
   split at h
   ·rename_i xs ys
    split at h
    ·rename_i hp
     have hf : P.fieldsOf t = fs := by simp [Program.fieldsOf, hu]
     rw [run_equalIn_struct w d t xs ys (by rw [hf]; exact hu) hp, hf]
     exact eqFs_run (fun t x y b hb => eqS_run hb) h
    ·cases h
   ·cases h
  ·cases h
theorem eqEv_run {op : BinOp} {T : TypeId} {x y : Operand} {xs ys : Array Value} {b : Bool} (h : eqEv P T xs ys = some b) : (eqGuard op T x y (.agg xs) (.agg ys)).run P w = .ok () w ∧ (Op.equalIn 10000 T (.agg xs) (.agg ys)).run P w = .ok b w := by
 unfold eqEv at h
 split at h
 ·cases h
 ·rename_i hg
  exact ⟨run_eqGuard_agg w op T x y xs ys hg, eqS_run h w⟩

theorem fieldAt_run {T : TypeId} {f n off k : Nat} (h : fieldOff P T f = some off) : (Instr.fieldAt T (.pointer (some ⟨k, n, none⟩)) f).run P w = .ok (.pointer (some ⟨k, n + off, none⟩)) w := by
 unfold fieldOff at h
 split at h
 ·rename_i fs hfs
  split at h
  ·cases h
  ·rename_i fl hfl
   split at h
   ·cases h
   ·rename_i i hi
    split at h
    ·cases h
    ·rename_i hz
     have hz' : i.size ≠ 0 := by intro e; rw [e] at hz; cases hz
     obtain rfl : fl.offset = off := by simpa using h
     have hadd : (⟨k, n, none⟩ : Addr).add fl.offset = ⟨k, n + fl.offset, none⟩ := by unfold Addr.add; split <;> simp_all
     simp [Instr.fieldAt, Sem.run_bind, run_underlying hfs w, hfl, Instr.sureAddr, fieldPlace, sizeOf, typeInfo, hi, hz', hadd]
 ·cases h

theorem indexAt_run {T : TypeId} {kd : IntKind} {i : Int} {n off k : Nat} (h : indexOff P T i = some off) : (Instr.indexAt T (.pointer (some ⟨k, n, none⟩)) (.int kd i)).run P w = .ok (.pointer (some ⟨k, n + off, none⟩)) w := by
 unfold indexOff at h
 split at h
 ·rename_i len e hd
  split at h
  ·cases h
  ·rename_i inf hi
   split at h
   ·rename_i m
    split at h
    ·rename_i hlt
     have hlt' : m < len := by simpa [Nat.blt_eq] using hlt
     obtain rfl : m * inf.size = off := by simpa using h
     have hadd : (⟨k, n, none⟩ : Addr).add (m * inf.size) = ⟨k, n + m * inf.size, none⟩ := by
      unfold Addr.add
      split
      ·rename_i h0; rw [h0]; rfl
      ·rfl
     have h1 : (0 : Int) ≤ Int.ofNat m ∧ Int.ofNat m < (len : Int) := ⟨Int.natCast_nonneg m, Int.ofNat_lt.2 hlt'⟩
     have h2 : (Int.ofNat m).toNat = m := rfl
     simp only [Instr.indexAt, asIntOf, Sem.run_bind, Sem.run_pure, Result.andThen_ok, run_underlying hd w, Instr.sureAddr, h1, and_self, if_true, sizeOf, typeInfo, program, Sem.run, hi, h2, hadd]
    ·cases h
   ·cases h
 ·cases h

theorem addr_add {k n d : Nat} : (⟨k, n, none⟩ : Addr).add d = ⟨k, n + d, none⟩ := by
 unfold Addr.add
 split
 ·rename_i h0; rw [h0]; rfl
 ·rfl
theorem indexAtS_run {T : TypeId} {kd : IntKind} {i : Int} {n off k len cap : Nat} (h : indexOffS P T len i = some off) : (Instr.indexAt T (.slice (some ⟨k, n, none⟩) len cap) (.int kd i)).run P w = .ok (.pointer (some ⟨k, n + off, none⟩)) w := by
 unfold indexOffS at h
 split at h
 ·rename_i e hd
  split at h
  ·cases h
  ·rename_i inf hi
   split at h
   ·rename_i m
    split at h
    ·rename_i hlt
     have hlt' : m < len := by simpa [Nat.blt_eq] using hlt
     obtain rfl : m * inf.size = off := by simpa using h
     have h1 : (0 : Int) ≤ Int.ofNat m ∧ Int.ofNat m < (len : Int) := ⟨Int.natCast_nonneg m, Int.ofNat_lt.2 hlt'⟩
     have h2 : (Int.ofNat m).toNat = m := rfl
     simp only [Instr.indexAt, asIntOf, Sem.run_bind, Sem.run_pure, Result.andThen_ok, run_underlying hd w, h1, and_self, if_true, sizeOf, typeInfo, program, Sem.run, hi, h2, addr_add]
    ·cases h
   ·cases h
 ·cases h
theorem bound_run {kd : IntKind} {n y : Nat} {code : BoundsCode} (h : n ≤ y) : (Instr.sliceBound (.int kd (.ofNat n)) y code).run P w = .ok n w := by
 have h1 : (0 : Int) ≤ Int.ofNat n ∧ Int.ofNat n ≤ (y : Int) := ⟨Int.natCast_nonneg n, Int.ofNat_le.2 h⟩
 simp only [Instr.sliceBound, asIntOf, Sem.run_bind, Sem.run_pure, Result.andThen_ok, h1, and_self, if_true]
 rfl
theorem bndS_ok {d n : Nat} {x : Option Operand} (h : bndS fr d x = some n) (hx : ∀ y, x = some y → (opS fr y).Ok r N (a.eval y)) : (x = none ∧ n = d) ∨ ∃ y kd, x = some y ∧ a.eval y = .int kd (.ofNat n) := by
 cases x with
 | none => left; exact ⟨rfl, by simpa [bndS] using h.symm⟩
 | some y =>
  right
  have h1 := hx y rfl
  simp only [bndS] at h
  split at h
  ·rename_i kd m hs
   obtain rfl : m = n := by simpa using h
   rw [hs] at h1
   exact ⟨y, kd, rfl, h1.1⟩
  ·cases h
theorem sliceAtS_run {T : TypeId} {k n l c d l' c' : Nat} {lo hi mx : Option Operand} (h : sliceS P fr T l c lo hi mx = some (d, l', c')) (hx : ∀ y, (lo = some y ∨ hi = some y) → (opS fr y).Ok r N (a.eval y)) :
  (Instr.sliceAt T (.slice (some ⟨k, n, none⟩) l c) (lo.map a.eval) (hi.map a.eval) (mx.map a.eval)).run P w = .ok (.slice (some ⟨k, n + d, none⟩) l' c') w := by
 unfold sliceS at h
 split at h
 ·rename_i e hd
  split at h
  ·cases h
  ·rename_i inf hi'
   split at h
   ·cases h
   ·split at h
    ·cases h
    ·rename_i h0 hh
     split at h
     ·cases h
     ·rename_i l0 hl
      split at h
      ·rename_i hc
       simp only [Bool.and_eq_true, Nat.ble_eq, Bool.not_eq_true'] at hc
       obtain ⟨⟨c1, c2⟩, c3⟩ := hc
       simp only [Option.some.injEq, Prod.mk.injEq] at h
       obtain ⟨rfl, rfl, rfl⟩ := h
       have hb : (Instr.sliceBounds true l c (lo.map a.eval) (hi.map a.eval) none).run P w = .ok (l0, h0, c) w := by
        rcases bndS_ok hh (fun y hy => hx y (.inr hy)) with ⟨rfl, rfl⟩ | ⟨y, kd, rfl, hy⟩ <;> rcases bndS_ok hl (fun y hy => hx y (.inl hy)) with ⟨rfl, rfl⟩ | ⟨y', kd', rfl, hy'⟩
        ·rfl
        ·simp only [Instr.sliceBounds, Option.map_none, Option.map_some, hy', Sem.run_bind, Sem.run_pure, Result.andThen_ok]; exact (congrArg (fun z : Result Nat => z.andThen fun q w' => Result.ok (q, h0, c) w') (bound_run c2))
        ·simp only [Instr.sliceBounds, Option.map_none, Option.map_some, hy, Sem.run_bind, Sem.run_pure, Result.andThen_ok, Option.isSome_none, bound_run c1, if_true]
        ·simp only [Instr.sliceBounds, Option.map_none, Option.map_some, hy, hy', Sem.run_bind, Sem.run_pure, Result.andThen_ok, Option.isSome_none, bound_run c1, if_true]; exact (congrArg (fun z : Result Nat => z.andThen fun q w' => Result.ok (q, h0, c) w') (bound_run c2))
       have c4 : ¬ c = l0 := fun e => by rw [e, Nat.beq_refl] at c3; cases c3
       simp only [Instr.sliceAt, Instr.slice, Option.map_none, Sem.run_bind, run_underlying hd w, Result.andThen_ok, hb, sizeOf, typeInfo, program, Sem.run, hi', c4, if_false, Option.map_some, addr_add]
       rfl
      ·cases h
 ·cases h
theorem foldl_set {l : List Value} {j0 off : Nat} {cs : Array Value} (h : off + j0 + l.length ≤ cs.size) :
  ((l.zipIdx j0).foldl (fun cs (p : Value × Nat) => cs.setIfInBounds (off + p.2) p.1) cs).toList = cs.toList.take (off + j0) ++ l ++ cs.toList.drop (off + j0 + l.length) := by
 induction l generalizing j0 cs with
 | nil => simp
 | cons v l ih =>
  simp only [List.zipIdx_cons, List.foldl_cons]
  simp only [List.length_cons] at h
  rw [ih (by simp; omega)]
  apply List.ext_getElem?
  intro i
  simp only [Array.toList_setIfInBounds, List.getElem?_append, List.getElem?_take, List.getElem?_drop, List.length_append, List.length_take, List.length_set, Array.length_toList, List.length_cons, List.getElem?_set, List.getElem?_cons]
  have := h
  by_cases h1 : i < off + j0
  ·have a1 : i < min (off + (j0 + 1)) cs.size := by omega
   have a2 : i < min (off + j0) cs.size := by omega
   have a3 : i < off + (j0 + 1) := by omega
   have a4 : ¬ off + j0 = i := by omega
   have a5 : i < min (off + (j0 + 1)) cs.size + l.length := by omega
   have a6 : i < min (off + j0) cs.size + (l.length + 1) := by omega
   simp [a1, a2, a3, a4, a5, a6, h1]
  ·by_cases h2 : i = off + j0
   ·subst h2
    have a1 : off + j0 < min (off + (j0 + 1)) cs.size := by omega
    have a2 : ¬ off + j0 < min (off + j0) cs.size := by omega
    have a3 : off + j0 < off + (j0 + 1) := by omega
    have a5 : off + j0 < min (off + (j0 + 1)) cs.size + l.length := by omega
    have a6 : off + j0 < min (off + j0) cs.size + (l.length + 1) := by omega
    have a7 : min (off + j0) cs.size = off + j0 := by omega
    have a8 : off + j0 < cs.size := by omega
    simp [a1, a2, a3, a5, a6, a7, a8]
   ·have a1 : ¬ i < min (off + (j0 + 1)) cs.size := by omega
    have a2 : ¬ i < min (off + j0) cs.size := by omega
    have b1 : min (off + (j0 + 1)) cs.size = off + j0 + 1 := by omega
    have b2 : min (off + j0) cs.size = off + j0 := by omega
    rw [b1, b2]
    by_cases h3 : i < off + j0 + 1 + l.length
    ·have a5 : i < off + j0 + (l.length + 1) := by omega
     have a6 : ¬ i - (off + j0) = 0 := by omega
     have a7 : i - (off + j0) - 1 = i - (off + j0 + 1) := by omega
     have a8 : ¬ i < off + j0 + 1 := by omega
     have a9 : ¬ i < off + j0 := by omega
     simp [h3, a5, a6, a7, a8, a9]
    ·have a5 : ¬ i < off + j0 + (l.length + 1) := by omega
     have e1 : off + (j0 + 1) + l.length + (i - (off + j0 + 1 + l.length)) = i := by omega
     have e2 : off + j0 + (l.length + 1) + (i - (off + j0 + (l.length + 1))) = i := by omega
     have a4 : ¬ off + j0 = i := by omega
     simp [h3, a5, e1, e2, a4]
theorem cellsS_ok {s : SV} {vs : List SV} {u : Value} (h : cellsS s = some vs) (hs : s.Ok r N u) : CellsOk r N vs u.cells := by
  have one : ∀ s : SV, s.Ok r N u → u.cells = #[u] → CellsOk r N [s] u.cells := fun s hs hu => by
    rw [hu]
    refine ⟨rfl, fun i s' h' => ?_⟩
    cases i with
    | zero =>
      simp at h'
      subst h'
      exact ⟨u, rfl, hs⟩
    | succ i => simp at h'
  cases s with
  | val v =>
    obtain rfl : u = v := hs.1
    obtain rfl : u.cells.toList.map SV.val = vs := by simpa [cellsS] using h
    exact cellsOk_vals _
  | row cs => cases h
  | any => cases h
  | ptr b o => obtain rfl : [SV.ptr b o] = vs := by simpa [cellsS] using h
               exact one _ hs (by rw [hs.1]; rfl)
  | clo f cs => obtain rfl : [SV.clo f cs] = vs := by simpa [cellsS] using h
                exact one _ hs (by rw [hs.1]; rfl)
  | sl b o l c => obtain rfl : [SV.sl b o l c] = vs := by simpa [cellsS] using h
                  exact one _ hs (by rw [hs.1]; rfl)
theorem CellsOk.splice {ss vs : List SV} {cs us : Array Value} {n m : Nat} (h : CellsOk r N ss cs) (hv : CellsOk r N vs us) (hm : m = n + vs.length) (hle : m ≤ ss.length) :
  CellsOk r N (ss.take n ++ vs ++ ss.drop m) (cs.toList.take n ++ us.toList ++ cs.toList.drop m).toArray := by
 have h1 := h.1
 have h2 := hv.1
 refine ⟨by simp; omega, fun i s hi => ?_⟩
 simp only [List.getElem?_toArray, List.getElem?_append, List.getElem?_take, List.getElem?_drop, List.length_append, List.length_take, Array.length_toList] at hi ⊢
 have e1 : min n ss.length = n := by omega
 have e2 : min n cs.size = n := by omega
 rw [e1] at hi
 rw [e2, h2]
 split at hi
 ·rename_i k
  rw [if_pos k]
  split at hi
  ·rename_i k2
   rw [if_pos k2]
   obtain ⟨u, hu, ho⟩ := h.2 i s hi
   exact ⟨u, by simpa [k2] using hu, ho⟩
  ·rename_i k2
   rw [if_neg k2]
   obtain ⟨u, hu, ho⟩ := hv.2 _ s hi
   exact ⟨u, by simpa using hu, ho⟩
 ·rename_i k
  rw [if_neg k]
  obtain ⟨u, hu, ho⟩ := h.2 _ s hi
  exact ⟨u, by simpa using hu, ho⟩
theorem fillS_ok (hfr : FrOk r N fr D a) {place : Nat → Option (Nat × Nat)} {sz : Nat} (hp : ∀ i, place i = some (i * sz, sz)) : ∀ {l : List (Nat × Operand)} {cs cs' : List SV} {us : Array Value}, fillS fr sz cs l = some cs' → (∀ p ∈ l, ∀ t, p.2 = .tmp t → ¬ D t) → CellsOk r N cs us →
  ∃ us', Instr.fill place us (l.map fun p => (p.1, a.eval p.2)) = some us' ∧ CellsOk r N cs' us'
 | [], cs, cs', us, h, _, hc => by simp only [fillS, Option.some.injEq] at h; subst h; exact ⟨us, rfl, hc⟩
 | (i, x) :: l, cs, cs', us, h, hD, hc => by
  simp only [fillS] at h
  have hx := opS_ok (x := x) hfr fun t ht => hD (i, x) (by simp) t ht
  split at h
  ·cases h
  ·rename_i vs hvs
   split at h
   ·rename_i hb
    simp only [Bool.and_eq_true, Nat.ble_eq] at hb
    have e1 := Nat.eq_of_beq_eq_true hb.1
    have hv := cellsS_ok hvs hx
    have hsz := hv.1
    have hus := hc.1
    have c1 := hc.splice (n := i * sz) (m := i * sz + sz) hv (by omega) hb.2
    obtain ⟨us', i1, i2⟩ := fillS_ok hfr hp h (fun p hpl => hD p (List.mem_cons_of_mem _ hpl)) c1
    refine ⟨us', ?_, i2⟩
    simp only [List.map_cons, Instr.fill, hp]
    rw [if_neg (by simp [hsz, e1]; omega)]
    rw [← i1]
    congr 1
    have := foldl_set (l := (a.eval x).cells.toList) (j0 := 0) (off := i * sz) (cs := us) (by simp; omega)
    apply Array.ext'
    rw [← Array.foldl_toList, Array.toList_zipIdx]
    rw [this, Nat.add_zero, Array.length_toList, show i * sz + (a.eval x).cells.size = i * sz + sz by omega]
   ·cases h
theorem rowS_ok {T : TypeId} {len : Nat} {parts : Array (Nat × Operand)} {B : Bk} (h : rowS P fr T len parts.toList = some B) (hfr : FrOk r N fr D a) (hD : ∀ p ∈ parts.toList, ∀ t, p.2 = Operand.tmp t → ¬ D t) :
  ∃ cs, CellsOk r N B.cells cs ∧ (Instr.buildSlice T len (parts.map fun (i, x) => (i, a.eval x))).run P w = .ok (mkV w.heap.size (some len)) (w.alloc (.cells cs B.t)) := by
 unfold rowS at h
 split at h
 ·rename_i e hd
  split at h
  ·rename_i inf hi
   split at h
   ·rename_i hb
    simp only [Bool.and_eq_true, Nat.ble_eq, Bool.not_eq_true'] at hb
    split at h
    ·rename_i z hz
     split at h
     ·rename_i cs hcs
      obtain rfl : Bk.mk cs e = B := by simpa using h
      obtain ⟨us, k1, k2⟩ := fillS_ok hfr (place := fun i => some (i * inf.size, inf.size)) (fun _ => rfl) hcs hD (cellsOk_vals (r := r) (N := N) _)
      refine ⟨us, k2, ?_⟩
      have b1 : ¬ len * inf.size > 2 ^ 24 := by omega
      have b2 : ¬ len * inf.size = 0 := fun e => by have := hb.2; rw [e] at this; cases this
      have e1 : (parts.map fun (i, x) => (i, a.eval x)).toList = parts.toList.map fun p => (p.1, a.eval p.2) := by simp
      simp only [Instr.buildSlice, Sem.run_bind, run_underlying hd w, Result.andThen_ok, sizeOf, typeInfo, program, Sem.run, hi, b1, if_false, Sem.run_pure, b2, pureOf_run hz w, e1, k1, newRow, newObj]
      rfl
     ·cases h
    ·cases h
   ·cases h
  ·cases h
 ·cases h
theorem lenS_ok {o : Oper} {c : Call} {n : Nat} (h : lenS P fr c = some n) (ho : o.op = .call c) (hx : ∀ y, y ∈ c.args → (opS fr y).Ok r N (a.eval y)) : (execOp a.eval o).run P w = .ok (.value (.int .i64 n)) w := by
 unfold lenS at h
 split at h
 ·rename_i hc
  split at h
  ·rename_i T hT
   split at h
   ·rename_i e hd
    split at h
    ·rename_i x hx0
     split at h
     ·rename_i b off l cap hs
      obtain rfl : l = n := by simpa using h
      have h1 := hx x (Array.mem_of_getElem? hx0)
      rw [hs] at h1
      have h2 : a.eval x = _ := h1.1
      unfold execOp; rw [ho]
      have e1 : (c.args.map a.eval)[0]? = some (.slice (some ⟨r b, off, none⟩) l cap) := by simp [hx0, h2]
      simp only [resolve, hc, Sem.run_bind, Sem.run_pure, Result.andThen_ok, invoke, builtin, Builtin.len_, hT, e1, run_underlying hd w, goInt]
     ·cases h
    ·cases h
   ·cases h
  ·cases h
 ·cases h
theorem capsOf_ok (hfr : FrOk r N fr D a) : ∀ {l : List Operand} {cs : List Cp}, capsOf fr l = some cs → (∀ t, Operand.tmp t ∈ l → ¬ D t) → l.map a.eval = cs.map (Cp.at r) ∧ ∀ c ∈ cs, c.Fresh N
 | [], cs, h, _ => by simp only [capsOf, Option.some.injEq] at h; subst h; exact ⟨rfl, fun c hc => by cases hc⟩
 | x :: l, cs, h, hD => by
  simp only [capsOf] at h
  have hx := opS_ok (x := x) hfr fun t ht => hD t (by simp [ht])
  split at h
  ·rename_i v cs' h1 h2
   obtain rfl : Cp.val v :: cs' = cs := by simpa using h
   obtain ⟨i1, i2⟩ := capsOf_ok hfr h2 fun t ht => hD t (List.mem_cons_of_mem _ ht)
   rw [h1] at hx
   refine ⟨?_, fun c hc => ?_⟩
   ·simp only [List.map_cons, i1, Cp.at]; rw [hx.1]
   ·rcases List.mem_cons.1 hc with rfl | hc
    ·trivial
    ·exact i2 c hc
  ·rename_i b n cs' h1 h2
   obtain rfl : Cp.ptr b n :: cs' = cs := by simpa using h
   obtain ⟨i1, i2⟩ := capsOf_ok hfr h2 fun t ht => hD t (List.mem_cons_of_mem _ ht)
   rw [h1] at hx
   refine ⟨?_, fun c hc => ?_⟩
   ·simp only [List.map_cons, i1, Cp.at]; rw [hx.1]
   ·rcases List.mem_cons.1 hc with rfl | hc
    ·exact hx.2
    ·exact i2 c hc
  ·cases h

end
section
variable {P : Program} {r : Nat → Nat} {N : Nat → Prop} {fr : List SV} {D : Nat → Prop} {a : Act} {bl : List Bk} {base : TypeId → Nat} {w : World}

def EffOk (P : Program) (r : Nat → Nat) (N : Nat → Prop) (bl : List Bk) (a : Act) (w : World) (o : Oper) : Eff → Prop
 | .value s => ∃ u, s.Ok r N u ∧ (execOp a.eval o).run P w = .ok (.value u) w
 | .alloc B kd => ∃ cs, CellsOk r N B.cells cs ∧ (execOp a.eval o).run P w = .ok (.value (mkV w.heap.size kd)) (w.alloc (.cells cs B.t))
 | .store b n vs => ∃ B cs us, bl[b]? = some B ∧ ¬ N b ∧ n + vs.length ≤ B.cells.length ∧ w.heap[r b]? = some (.cells cs B.t (0, 0)) ∧ CellsOk r N B.cells cs ∧ CellsOk r N vs us ∧
   (execOp a.eval o).run P w = .ok .skip (w.setRow (r b) (cs.toList.take n ++ us.toList ++ cs.toList.drop (n + us.size)).toArray)

theorem storeS_ok {T : TypeId} {s : SV} {vs : List SV} {u : Value} (h : storeS P T s = some vs) (hs : s.Ok r N u) :
  CellsOk r N vs u.cells ∧ u.cells.size = vs.length ∧ (P.info? T).map (·.size) = some u.cells.size ∧ ∀ v ∈ u.cells.toList, v.oneCell' = true := by
 unfold storeS at h
 split at h
 ·cases h
 ·rename_i i hi
  split at h
  ·rename_i v
   obtain rfl : u = v := hs.1
   split at h
   ·rename_i hc
    obtain rfl : u.cells.toList.map SV.val = vs := by simpa using h
    simp only [Bool.and_eq_true] at hc
    have hz := Nat.eq_of_beq_eq_true hc.1
    exact ⟨cellsOk_vals _, by simp, by simp [hi, hz], fun v hv => List.all_eq_true.1 hc.2 v hv⟩
   ·cases h
  ·rename_i cs
   split at h
   ·rename_i hc
    obtain rfl : cs.map Ce.sv = vs := by simpa using h
    simp only [Bool.and_eq_true] at hc
    have hz := Nat.eq_of_beq_eq_true hc.1
    obtain rfl : u = _ := hs.1
    have hfr : ∀ c ∈ cs, c.Fresh N := hs.2
    refine ⟨⟨by simp [Value.cells], fun i s' h' => ?_⟩, by simp [Value.cells], by simp [hi, Value.cells, hz], fun v hv => ?_⟩
    ·simp only [List.getElem?_map, Option.map_eq_some_iff] at h'
     obtain ⟨c, hc1, rfl⟩ := h'
     exact ⟨c.at r, by simp [Value.cells, hc1], Ce.sv_ok (hfr c (List.mem_of_getElem? hc1))⟩
    ·simp only [Value.cells, List.mem_map] at hv
     obtain ⟨c, hc1, rfl⟩ := hv
     have := List.all_eq_true.1 hc.2 c hc1
     cases c with
     | val v => exact this
     | clo f q => rfl
   ·cases h
  ·cases h
  ·split at h
   ·rename_i hne hnr hna _ hc
    obtain rfl : [s] = vs := by simpa using h
    have hz := Nat.eq_of_beq_eq_true hc
    have hu : u.cells = #[u] ∧ u.oneCell' = true := by
     cases s with
     | val v => exact absurd rfl (hne v)
     | any => exact absurd rfl hna
     | row cs => exact absurd rfl (hnr cs)
     | ptr b o => obtain rfl : u = _ := hs.1; exact ⟨rfl, rfl⟩
     | clo f cs => obtain rfl : u = _ := hs.1; exact ⟨rfl, rfl⟩
     | sl b o l c => obtain rfl : u = _ := hs.1; exact ⟨rfl, rfl⟩
    rw [hu.1]
    refine ⟨⟨rfl, fun i s' h' => ?_⟩, rfl, by simp [hi, ← hz], fun v hv => ?_⟩
    ·cases i with
     | zero =>
      simp at h'
      subst h'
      exact ⟨u, rfl, hs⟩
     | succ i => simp at h'
    ·have : v = u := by simpa using hv
     rw [this]; exact hu.2
   ·cases h

theorem BlOk.lt (hbl : BlOk r N bl base w) {b : Nat} {B : Bk} (hb : bl[b]? = some B) (hn : ¬ N b) : r b < w.heap.size := by
 obtain ⟨-, cs, hk, -⟩ := hbl.is b B hb hn
 exact (Array.getElem?_eq_some_iff.1 hk).1

theorem evOp_ok {o : Oper} {e : Eff} (h : evOp P fr bl o = some e) (hfr : FrOk r N fr D a) (hop : ∀ t ∈ opTmps o, ¬ D t) (hbl : BlOk r N bl base w) : EffOk P r N bl a w o e := by
 have hx : ∀ x, x ∈ o.op.operands → (opS fr x).Ok r N (a.eval x) := fun x hm => opS_ok hfr fun t ht => hop t (mem_opTmps (ht ▸ hm))
 have pw : pureEv P fr o = none ∨ ∃ v, pureEv P fr o = some v := by cases pureEv P fr o <;> simp
 unfold evOp at h
 split at h
 -- move
 ·rename_i x ho
  obtain rfl : Eff.value (opS fr x) = e := by simpa using h
  exact ⟨a.eval x, hx x (by simp [ho, Op.operands]), by unfold execOp; rw [ho]; rfl⟩
 -- assign
 ·rename_i x ho
  obtain rfl : Eff.value (opS fr x) = e := by simpa using h
  exact ⟨a.eval x, hx x (by simp [ho, Op.operands]), by unfold execOp; rw [ho]; rfl⟩
 -- nilCheck
 ·rename_i x ho
  have h1 := hx x (by simp [ho, Op.operands])
  split at h
  ·rename_i b n hs
   obtain rfl : Eff.value (.ptr b n) = e := by simpa using h
   rw [hs] at h1
   refine ⟨a.eval x, h1, ?_⟩
   have h2 : a.eval x = _ := h1.1
   unfold execOp; rw [ho]; simp only [h2]; rfl
  ·rename_i ad hs
   obtain rfl : Eff.value (.val (.pointer (some ad))) = e := by simpa using h
   rw [hs] at h1
   refine ⟨a.eval x, h1, ?_⟩
   have h2 : a.eval x = _ := h1.1
   unfold execOp; rw [ho]; simp only [h2]; rfl
  ·cases h
 -- alloc
 ·rename_i T ho
  split at h
  ·rename_i z hz
   obtain rfl : Eff.alloc ⟨z.cells.toList.map .val, T⟩ none = e := by simpa using h
   refine ⟨z.cells, cellsOk_vals _, ?_⟩
   unfold execOp; rw [ho]
   simp only [Instr.alloc, Sem.run_bind, pureOf_run hz w, Result.andThen_ok, newVar, newRow, newObj]
   rfl
  ·cases h
 -- box
 ·rename_i T x ho
  have h1 := hx x (by simp [ho, Op.operands])
  have run : (execOp a.eval o).run P w = .ok (.value (.pointer (some ⟨w.heap.size, 0, none⟩))) (w.alloc (.cells (a.eval x).cells T)) := by
   unfold execOp; rw [ho]
   simp only [Instr.box, Sem.run_bind, newVar, newRow, newObj]
   rfl
  split at h
  ·rename_i v hv
   obtain rfl : Eff.alloc ⟨v.cells.toList.map .val, T⟩ none = e := by simpa using h
   rw [hv] at h1
   have h2 : a.eval x = v := h1.1
   rw [h2] at run
   exact ⟨v.cells, cellsOk_vals _, run⟩
  ·cases h
  ·cases h
  ·rename_i hne hna hnr
   obtain rfl : Eff.alloc ⟨[opS fr x], T⟩ none = e := by simpa using h
   have hc : (a.eval x).cells = #[a.eval x] := by
    cases hs : opS fr x with
    | val v => exact absurd hs (hne v)
    | any => exact absurd hs hna
    | row cs => exact absurd hs (hnr cs)
    | ptr b o => rw [hs] at h1; have h2 : a.eval x = _ := h1.1; rw [h2]; rfl
    | clo f cs => rw [hs] at h1; have h2 : a.eval x = _ := h1.1; rw [h2]; rfl
    | sl b o l c => rw [hs] at h1; have h2 : a.eval x = _ := h1.1; rw [h2]; rfl
   rw [hc] at run
   refine ⟨#[a.eval x], ⟨rfl, fun i s' h' => ?_⟩, run⟩
   cases i with
   | zero => simp at h'; subst h'; exact ⟨_, rfl, h1⟩
   | succ i => simp at h'
 -- load
 ·rename_i T x ho
  have h1 := hx x (by simp [ho, Op.operands])
  split at h
  ·rename_i b n hs
   rw [hs] at h1
   have h2 : a.eval x = _ := h1.1
   split at h
   ·rename_i B hB
    obtain ⟨s, rfl, u, hu, hrun⟩ := loadS_ok (w := w) h (hbl.is b B hB h1.2).2
    refine ⟨u, hu, ?_⟩
    unfold execOp; rw [ho]
    simp only [h2, Instr.loadAt, Instr.sureAddr, Sem.run_bind, Sem.run_pure, Result.andThen_ok, hrun]
   ·cases h
  ·cases h
 -- store
 ·rename_i T x y ho
  have h1 := hx x (by simp [ho, Op.operands])
  have h3 := hx y (by simp [ho, Op.operands])
  split at h
  ·rename_i b n hs
   rw [hs] at h1
   have h2 : a.eval x = _ := h1.1
   split at h
   ·rename_i B hB
    split at h
    ·rename_i vs hvs
     split at h
     ·rename_i hle
      obtain rfl : Eff.store b n vs = e := by simpa using h
      have hle' : n + vs.length ≤ B.cells.length := by simpa [Nat.ble_eq] using hle
      obtain ⟨k1, k2, k3, k4⟩ := storeS_ok hvs h3
      obtain ⟨-, cs, hk, hsz, hcs⟩ := hbl.is b B hB h1.2
      refine ⟨B, cs, (a.eval y).cells, hB, h1.2, hle', hk, ⟨hsz, hcs⟩, k1, ?_⟩
      have hst := run_storeCells_at (P := P) (r b) n B.t (a.eval y).cells.toList 0 cs w hk (by simp; omega) k4
      simp only [Nat.add_zero] at hst
      have hst' : (storeCells ⟨r b, n, none⟩ (a.eval y).cells.toList).run P w = _ := hst
      have hsz' : (sizeOf T).run P w = .ok (a.eval y).cells.size w := by
       cases hq : P.info? T with
       | none => simp [hq] at k3
       | some i =>
        have : i.size = (a.eval y).cells.size := by simpa [hq] using k3
        simp [sizeOf, typeInfo, hq, this]
      unfold execOp; rw [ho]
      simp only [h2, Instr.storeAt, Instr.sureAddr, storeVar, Sem.run_bind, Sem.run_pure, Result.andThen_ok, hsz', ne_eq, not_true, if_false, hst']
      simp
     ·cases h
    ·cases h
   ·cases h
  ·cases h
 -- fieldAddr
 ·rename_i T x f ho
  have h1 := hx x (by simp [ho, Op.operands])
  split at h
  ·rename_i b n hs
   rw [hs] at h1
   have h2 : a.eval x = _ := h1.1
   split at h
   ·rename_i k hk
    obtain rfl : Eff.value (.ptr b (n + k)) = e := by simpa using h
    refine ⟨_, ⟨rfl, h1.2⟩, ?_⟩
    unfold execOp; rw [ho]
    simp only [h2, Sem.run_bind, fieldAt_run hk, Result.andThen_ok]; rfl
   ·cases h
  ·rename_i b n hs
   rw [hs] at h1
   have h2 : a.eval x = _ := h1.1
   split at h
   ·rename_i k hk
    obtain rfl : Eff.value (.val (.pointer (some ⟨b, n + k, none⟩))) = e := by simpa using h
    refine ⟨_, ⟨rfl, trivial⟩, ?_⟩
    unfold execOp; rw [ho]
    simp only [h2, Sem.run_bind, fieldAt_run hk, Result.andThen_ok]; rfl
   ·cases h
  ·cases h
 -- indexAddr
 ·rename_i T x i ho
  have h1 := hx x (by simp [ho, Op.operands])
  have h3 := hx i (by simp [ho, Op.operands])
  split at h
  ·rename_i b n hs
   rw [hs] at h1
   have h2 : a.eval x = _ := h1.1
   split at h
   ·rename_i kd iv hi
    rw [hi] at h3
    have h4 : a.eval i = _ := h3.1
    split at h
    ·rename_i d hd
     obtain rfl : Eff.value (.ptr b (n + d)) = e := by simpa using h
     refine ⟨_, ⟨rfl, h1.2⟩, ?_⟩
     unfold execOp; rw [ho]
     simp only [h2, h4, Sem.run_bind, indexAt_run hd, Result.andThen_ok]; rfl
    ·cases h
   ·cases h
  ·rename_i b n len cap hs
   rw [hs] at h1
   have h2 : a.eval x = _ := h1.1
   split at h
   ·rename_i kd iv hi
    rw [hi] at h3
    have h4 : a.eval i = _ := h3.1
    split at h
    ·rename_i d hd
     obtain rfl : Eff.value (.ptr b (n + d)) = e := by simpa using h
     refine ⟨_, ⟨rfl, h1.2⟩, ?_⟩
     unfold execOp; rw [ho]
     simp only [h2, h4, Sem.run_bind, indexAtS_run hd, Result.andThen_ok]; rfl
    ·cases h
   ·cases h
  ·cases h
 -- a part of a slice
 ·rename_i T x lo hi mx ho
  have h1 := hx x (by simp [ho, Op.operands])
  split at h
  ·rename_i b n l c hs
   rw [hs] at h1
   have h2 : a.eval x = _ := h1.1
   split at h
   ·rename_i d l' c' hd
    obtain rfl : Eff.value (.sl b (n + d) l' c') = e := by simpa using h
    refine ⟨_, ⟨rfl, h1.2⟩, ?_⟩
    unfold execOp; rw [ho]
    have hb : ∀ y, (lo = some y ∨ hi = some y) → (opS fr y).Ok r N (a.eval y) := fun y hy => hx y (by
     simp only [ho, Op.operands]
     rcases hy with rfl | rfl <;> simp)
    simp only [h2, Sem.run_bind, sliceAtS_run hd hb, Result.andThen_ok]; rfl
   ·cases h
  ·split at h
   ·rename_i v hv
    obtain rfl : Eff.value (.val v) = e := by simpa using h
    exact ⟨v, ⟨rfl, trivial⟩, pureEv_ok hv hfr hop⟩
   ·cases h
 -- a slice that is written down
 ·rename_i T len parts ho
  split at h
  ·rename_i B hB
   obtain rfl : Eff.alloc B (some len) = e := by simpa using h
   obtain ⟨cs, hcs, hrun⟩ := rowS_ok (w := w) hB hfr fun p hp t ht => hop t (mem_opTmps (by
    simp only [ho, Op.operands, List.mem_toArray, List.mem_map]
    exact ⟨p, hp, ht⟩))
   refine ⟨cs, hcs, ?_⟩
   unfold execOp; rw [ho]
   simp only [Sem.run_bind, hrun, Result.andThen_ok]; rfl
  ·cases h
 -- makeFunc
 ·rename_i f first caps ho
  split at h
  ·rename_i hf
   split at h
   ·rename_i cs hcs
    obtain rfl : Eff.value (.clo f cs) = e := by simpa using h
    obtain ⟨i1, i2⟩ := capsOf_ok hfr hcs fun t ht => hop t (mem_opTmps (by simp [ho, Op.operands]; right; simpa using ht))
    have hf' : first = #[] := by cases first; simp_all
    refine ⟨_, ⟨rfl, i2⟩, ?_⟩
    unfold execOp; rw [ho]
    have i3 : caps.map a.eval = (cs.map (Cp.at r)).toArray := by
     rw [← i1]; cases caps; simp
    simp only [hf', Instr.makeFunc, Sem.run_bind, Sem.run_pure, Result.andThen_ok, i3, Array.map_empty]
   ·cases h
  ·cases h
 -- build
 ·rename_i T parts ho
  split at h
  ·rename_i v hv
   obtain rfl : Eff.value (.val v) = e := by simpa using h
   exact ⟨v, ⟨rfl, trivial⟩, pureEv_ok hv hfr hop⟩
  ·split at h
   ·rename_i cs hcs
    obtain rfl : Eff.value (.row cs) = e := by simpa using h
    obtain ⟨k1, k2⟩ := rowEv_ok (w := w) hcs hfr fun p hp t ht => hop t (mem_opTmps (by
     simp only [ho, Op.operands, List.mem_toArray, List.mem_map]
     exact ⟨p, hp, ht⟩))
    refine ⟨_, ⟨rfl, k2⟩, ?_⟩
    unfold execOp; rw [ho]
    simp only [Sem.run_bind, k1, Result.andThen_ok]; rfl
   ·cases h
 -- a comparison
 ·rename_i op T x y yT ho
  have h1 := hx x (by simp [ho, Op.operands])
  have h3 := hx y (by simp [ho, Op.operands])
  split at h
  ·rename_i xs ys hs1 hs2
   rw [hs1] at h1; rw [hs2] at h3
   have h2 : a.eval x = _ := h1.1
   have h4 : a.eval y = _ := h3.1
   split at h
   ·rename_i b hb
    obtain rfl : Eff.value (.val (.bool b)) = e := by simpa using h
    obtain ⟨r1, r2⟩ := eqEv_run (w := w) (op := .eql) (x := x) (y := y) hb
    refine ⟨.bool b, ⟨rfl, trivial⟩, ?_⟩
    unfold execOp; rw [ho]
    simp only [h2, h4, Sem.run_bind, r1, Result.andThen_ok, run_eql_struct, r2, Sem.run_pure]
   ·cases h
  ·rename_i xs ys hs1 hs2
   rw [hs1] at h1; rw [hs2] at h3
   have h2 : a.eval x = _ := h1.1
   have h4 : a.eval y = _ := h3.1
   split at h
   ·rename_i b hb
    obtain rfl : Eff.value (.val (.bool (!b))) = e := by simpa using h
    obtain ⟨r1, r2⟩ := eqEv_run (w := w) (op := .neq) (x := x) (y := y) hb
    refine ⟨.bool (!b), ⟨rfl, trivial⟩, ?_⟩
    unfold execOp; rw [ho]
    simp only [h2, h4, Sem.run_bind, r1, Result.andThen_ok, run_neq_struct, r2, Sem.run_pure]
   ·cases h
  ·split at h
   ·rename_i v hv
    obtain rfl : Eff.value (.val v) = e := by simpa using h
    exact ⟨v, ⟨rfl, trivial⟩, pureEv_ok hv hfr hop⟩
   ·cases h
 -- a builtin
 ·rename_i c ho
  split at h
  ·split at h
   ·rename_i v hv
    obtain rfl : Eff.value (.val v) = e := by simpa using h
    exact ⟨v, ⟨rfl, trivial⟩, pureEv_ok hv hfr hop⟩
   ·split at h
    ·rename_i n hn
     obtain rfl : Eff.value (.val (.int .i64 n)) = e := by simpa using h
     refine ⟨_, ⟨rfl, trivial⟩, lenS_ok hn ho fun y hy => hx y ?_⟩
     simp only [ho, Op.operands, Call.operands]
     simp [hy]
    ·cases h
  ·cases h
 -- the rest
 ·split at h
  ·rename_i v hv
   obtain rfl : Eff.value (.val v) = e := by simpa using h
   exact ⟨v, ⟨rfl, trivial⟩, pureEv_ok hv hfr hop⟩
  ·cases h
end
section
variable {P : Program}

def base0 (f : FuncId) : Frame := { (default : Frame) with fn := f, kind := .normal }
def Goes (P : Program) (f : FuncId) (R : Ending → World → Prop) (todo : List Item) (a : Act) (w : World) : Prop :=
 ∀ cs, ∃ e w' fr, R e w' ∧ Comes P (lone ((base0 f).at a todo) cs w) (lone fr cs w') e ∧ fr.fn = f ∧ fr.leaving P w' e
def QK (P : Program) (f : FuncId) (R : Ending → World → Prop) (todo : List Item) : Exit → Act → World → Prop
 | .normal, a, w => Goes P f R todo a w
 | _, _, _ => False
theorem Goes.step {f : FuncId} {R : Ending → World → Prop} {t t' : List Item} {a a' : Act} {w w' : World}
  (hs : ∀ cs, step P (lone ((base0 f).at a t) cs w) = .next (lone ((base0 f).at a' t') cs w')) (h : Goes P f R t' a' w') : Goes P f R t a w := by
 intro cs
 obtain ⟨e, w2, fr, h1, h2, h3⟩ := h cs
 exact ⟨e, w2, fr, h1, Comes.of_steps (Steps.one (hs cs)) h2, h3⟩
theorem Goes.code {f : FuncId} {R : Ending → World → Prop} {c : Code} {k : List Item} {a : Act} {w : World} (h : c.wp P (QK P f R k) a w) : Goes P f R (.code c :: k) a w := by
 intro cs
 obtain ⟨e, a', w', hq, harr⟩ := h (base0 f) k cs
 cases e with
 | normal =>
  obtain ⟨e, w2, fr, h1, h2, h3⟩ := hq cs
  exact ⟨e, w2, fr, h1, Comes.of_steps harr h2, h3⟩
 | _ => exact hq.elim

inductive Rg where
 | plain (ops : Array Oper) (rest : List Nat)
 | drawn (ops : Array Oper) (lst : List Nat) (pd : List (Nat × Option Nat))
structure Cf where
 todo : List Item
 rg : Option Rg
 fr : List SV
 bl : List Bk
structure Cx where
 P : Program
 f : FuncId
 E : List TypeId
 w0 : World
 R : Ending → World → Prop

def memN (i : Nat) (l : List Nat) : Bool := l.any (Nat.beq i ·)
theorem memN_iff {i : Nat} {l : List Nat} : memN i l = true ↔ i ∈ l := by
 simp only [memN, List.any_eq_true]
 exact ⟨fun ⟨x, hx, h⟩ => (Nat.eq_of_beq_eq_true h) ▸ hx, fun h => ⟨i, h, Nat.beq_refl i⟩⟩
def Cx.base (C : Cx) (t : TypeId) : Nat := if (memN 999999 C.E && memN t C.E) = true then 0 else C.w0.heap.size
theorem Cx.base_le (C : Cx) (t : TypeId) : C.base t ≤ C.w0.heap.size := by unfold Cx.base; split <;> omega
theorem Cx.base_of {C : Cx} {t : TypeId} (h : t ∉ C.E) : C.base t = C.w0.heap.size := by
 unfold Cx.base
 rw [if_neg]
 intro k
 rw [Bool.and_eq_true] at k
 exact h (memN_iff.1 k.2)
theorem Cx.base_no {C : Cx} {t : TypeId} (h : memN 999999 C.E = false) : C.base t = C.w0.heap.size := by
 unfold Cx.base; rw [h]; rfl
def Keep (E : List TypeId) (w w' : World) : Prop := ∀ (k : Nat) (cs : Array Value) (e : TypeId) (z : Nat × Nat), e ∈ E → w.heap[k]? = some (Obj.cells cs e z) → w'.heap[k]? = some (Obj.cells cs e z)
def Stable (E : List TypeId) (G : World → Prop) : Prop := ∀ w w', Keep E w w' → G w → G w'
theorem Keep.below {E : List TypeId} {w w' : World} (h : Below w.heap.size w w') : Keep E w w' := fun k cs e z _ hk => by
 rw [h.block k (Array.getElem?_eq_some_iff.1 hk).1]; exact hk
theorem Keep.setRow {E : List TypeId} {w : World} {g : Nat} {cs : Array Value} {t : TypeId} {z : Nat × Nat} (hg : w.heap[g]? = some (.cells cs t z)) (ht : t ∉ E) (us : Array Value) : Keep E w (w.setRow g us) := fun k cs' e z' he hk => by
 have hne : k ≠ g := fun e => by subst e; rw [hg] at hk; injection hk with hk; injection hk with _ hk _; exact ht (hk ▸ he)
 rw [setRow_other w g k _ hne]; exact hk
structure St (C : Cx) (G : World → Prop) (fr : List SV) (bl : List Bk) (r : Nat → Nat) (N : Nat → Prop) (D : Nat → Prop) (a : Act) (w : World) : Prop where
 fr : FrOk r N fr D a
 bl : BlOk r N bl C.base w
 w0 : Below C.w0.heap.size C.w0 w
 fact : G w

def afterB (o : Oper) : List Nat := o.after.toList.filterMap fun e => if Region.binds .any e then some e.on else none
theorem mem_afterB {o : Oper} {m : Nat} : m ∈ afterB o ↔ ∃ e ∈ o.after, Region.binds .any e = true ∧ e.on = m := by
 simp only [afterB, List.mem_filterMap, Array.mem_toList_iff]
 constructor
 ·rintro ⟨e, he, h⟩
  split at h
  ·rename_i hb; exact ⟨e, he, hb, by simpa using h⟩
  ·cases h
 ·rintro ⟨e, he, hb, rfl⟩
  exact ⟨e, he, by simp [hb]⟩
def putS (fr : List SV) (d : Option Tmp) (s : SV) : List SV :=
 match d with
 | some d => fr.set d s
 | none => fr
def gd (ops : Array Oper) (fr : List SV) (o : Oper) : Option Bool :=
 match o.guard with
 | none => some true
 | some (j, want) => match (ops[j]?).bind (·.dst) with
  | none => some false
  | some d => match fr[d]? with
   | none => some false
   | some (.val (.bool b)) => some (b == want)
   | some (.val _) => some false
   | _ => none
theorem gd_ok {r : Nat → Nat} {N : Nat → Prop} {fr : List SV} {D : Nat → Prop} {a : Act} {ops : Array Oper} {o : Oper} {g : Bool} (h : gd ops fr o = some g) (hfr : FrOk r N fr D a)
  (hD : ∀ t ∈ o.looksAt ops, ¬ D t) : Region.wanted o (yielded ops a.tmps) = g := by
 unfold gd at h
 unfold Region.wanted
 split at h
 ·rename_i hg; simp only [hg]; simpa using h
 ·rename_i j want hg
  simp only [hg]
  split at h
  ·rename_i hj
   obtain rfl : false = g := by simpa using h
   simp [yielded, hj]
  ·rename_i d hj
   have hd : ¬ D d := hD d (by simp [Oper.looksAt, hg, hj])
   split at h
   ·rename_i hn
    obtain rfl : false = g := by simpa using h
    have : a.tmps[d]? = none := by
     rw [Array.getElem?_eq_none_iff, hfr.size]; exact List.getElem?_eq_none_iff.1 hn
    simp [yielded, hj, this]
   ·rename_i b hb
    obtain rfl : (b == want) = g := by simpa using h
    obtain ⟨u, hu, hi, -⟩ := hfr.at_ d _ hb hd
    obtain rfl : u = .bool b := hi
    simp [yielded, hj, hu]
   ·rename_i v hne hb
    obtain rfl : false = g := by simpa using h
    obtain ⟨u, hu, hi, -⟩ := hfr.at_ d _ hb hd
    obtain rfl : u = v := hi
    have : yielded ops a.tmps j = none := by
     simp only [yielded, hj, Option.bind_some, hu]
     split
     ·rename_i b hb'
      obtain rfl : u = .bool b := by simpa using hb'
      exact absurd rfl (hne b)
     ·rfl
    rw [this]; rfl
   ·cases h

theorem FrOk.put {r : Nat → Nat} {N : Nat → Prop} {fr : List SV} {D : Nat → Prop} {a : Act} (h : FrOk r N fr D a) (d : Option Tmp) {s : SV} {u : Value} (hs : s.Ok r N u) : FrOk r N (putS fr d s) D (a.put d u) := by
 cases d with
 | none => exact h
 | some d =>
  refine ⟨by simp [putS, Act.put, h.size], fun t s' ht hD => ?_, h.nod⟩
  simp only [putS] at ht
  rw [List.getElem?_set] at ht
  split at ht
  ·rename_i hdt
   subst hdt
   split at ht
   ·rename_i hlt
    obtain rfl : s = s' := by simpa using ht
    exact ⟨u, by simp [Act.put, h.size, hlt], hs⟩
   ·cases ht
  ·rename_i hdt
   obtain ⟨u', hu', ho⟩ := h.at_ t s' ht hD
   exact ⟨u', by simp [Act.put, Array.getElem?_setIfInBounds_ne hdt, hu'], ho⟩
theorem FrOk.mono {r : Nat → Nat} {N N' : Nat → Prop} {fr : List SV} {D D' : Nat → Prop} {a : Act} (h : FrOk r N fr D a) (hN : ∀ b, N' b → N b) (hD : ∀ t, D t → D' t) : FrOk r N' fr D' a :=
 ⟨h.size, fun t s ht hd => let ⟨u, hu, h1, h2⟩ := h.at_ t s ht fun k => hd (hD t k); ⟨u, hu, h1, h2.mono hN⟩, h.nod⟩
theorem CellsOk.mono {r : Nat → Nat} {N N' : Nat → Prop} {ss : List SV} {cs : Array Value} (h : CellsOk r N ss cs) (hN : ∀ b, N' b → N b) : CellsOk r N' ss cs :=
 ⟨h.1, fun i s hi => let ⟨u, hu, h1, h2⟩ := h.2 i s hi; ⟨u, hu, h1, h2.mono hN⟩⟩
theorem CellsOk.re {r r' : Nat → Nat} {N : Nat → Prop} (hr : ∀ b, ¬ N b → r' b = r b) {ss : List SV} {cs : Array Value} (h : CellsOk r N ss cs) : CellsOk r' N ss cs :=
 ⟨h.1, fun i s hi => let ⟨u, hu, h1, h2⟩ := h.2 i s hi; ⟨u, hu, h1.re hr h2, h2⟩⟩
theorem FrOk.re {r r' : Nat → Nat} {N : Nat → Prop} (hr : ∀ b, ¬ N b → r' b = r b) {fr : List SV} {D : Nat → Prop} {a : Act} (h : FrOk r N fr D a) : FrOk r' N fr D a :=
 ⟨h.size, fun t s ht hd => let ⟨u, hu, h1, h2⟩ := h.at_ t s ht hd; ⟨u, hu, h1.re hr h2, h2⟩, h.nod⟩
theorem BlOk.below {r : Nat → Nat} {N : Nat → Prop} {bl : List Bk} {base : TypeId → Nat} {w w' : World} (h : BlOk r N bl base w) (hb : Below w.heap.size w w') : BlOk r N bl base w' :=
 ⟨fun b B hB hn => by
  obtain ⟨h1, cs, hk, hc⟩ := h.is b B hB hn
  exact ⟨h1, cs, (hb.block _ (Array.getElem?_eq_some_iff.1 hk).1).trans hk, hc⟩, h.inj⟩
theorem BlOk.make {r : Nat → Nat} {N N' : Nat → Prop} {bl : List Bk} {base : TypeId → Nat} {b0 : Nat} {B0 : Bk} {cs : Array Value} {w : World} (h : BlOk r N bl base w) (hbase : ∀ t, base t ≤ w.heap.size) (hb0 : bl[b0]? = some B0)
  (hN : ∀ b, N b ↔ (N' b ∨ b = b0)) (hn0 : ¬ N' b0) (hcs : CellsOk r N B0.cells cs) :
  BlOk (fun b => if b = b0 then w.heap.size else r b) N' bl base (w.alloc (.cells cs B0.t)) := by
 have hr : ∀ b, ¬ N b → (fun b => if b = b0 then w.heap.size else r b) b = r b := fun b hb => by
  have : b ≠ b0 := fun e => hb ((hN b).2 (.inr e))
  simp [this]
 have hsub : ∀ b, N' b → N b := fun b hb => (hN b).2 (.inl hb)
 refine ⟨fun b B hB hn => ?_, fun b b' hb hb' hn hn' he => ?_⟩
 ·by_cases e : b = b0
  ·subst e
   obtain rfl : B0 = B := by rw [hb0] at hB; simpa using hB
   simp only [if_true]
   exact ⟨hbase _, cs, by show (w.heap.push _)[w.heap.size]? = _; simp, (hcs.re hr).mono hsub⟩
  ·have hnN : ¬ N b := fun k => ((hN b).1 k).elim hn e
   obtain ⟨h1, cs', hk, hc⟩ := h.is b B hB hnN
   simp only [e, if_false]
   exact ⟨h1, cs', (Below.heap_alloc _ _ _ (Array.getElem?_eq_some_iff.1 hk).1).trans hk, (hc.re hr).mono hsub⟩
 ·have lt : ∀ c, c < bl.length → ¬ N c → r c < w.heap.size := fun c hc hnc => h.lt (List.getElem?_eq_getElem hc) hnc
  by_cases e : b = b0
  ·by_cases e' : b' = b0
   ·rw [e, e']
   ·have := lt b' hb' fun k => ((hN b').1 k).elim hn' e'
    simp only [e, e', if_true, if_false] at he
    omega
  ·have h1 := lt b hb fun k => ((hN b).1 k).elim hn e
   by_cases e' : b' = b0
   ·simp only [e, e', if_true, if_false] at he
    omega
   ·simp only [e, e', if_false] at he
    exact h.inj b b' hb hb' (fun k => ((hN b).1 k).elim hn e) (fun k => ((hN b').1 k).elim hn' e') he
theorem BlOk.grow {r : Nat → Nat} {N N' : Nat → Prop} {bl bl' : List Bk} {base : TypeId → Nat} {b0 k : Nat} {B0 : Bk} {cs : Array Value} {w w' : World} (h : BlOk r N bl base w) (hbel : Below w.heap.size w w') (hbase : ∀ t, base t ≤ w.heap.size) (hb0 : bl'[b0]? = some B0)
  (hbl : ∀ (b : Nat) (B : Bk), bl'[b]? = some B → ¬ N b → bl[b]? = some B) (hlen : ∀ b, b < bl'.length → ¬ N b → b < bl.length) (hN : ∀ b, N b ↔ (N' b ∨ b = b0)) (hn0 : ¬ N' b0) (hk : w.heap.size ≤ k) (hcell : w'.heap[k]? = some (.cells cs B0.t (0, 0))) (hcs : CellsOk r N B0.cells cs) :
  BlOk (fun b => if b = b0 then k else r b) N' bl' base w' := by
 have hr : ∀ b, ¬ N b → (fun b => if b = b0 then k else r b) b = r b := fun b hb => by
  have : b ≠ b0 := fun e => hb ((hN b).2 (.inr e))
  simp [this]
 have hsub : ∀ b, N' b → N b := fun b hb => (hN b).2 (.inl hb)
 have lt : ∀ c, c < bl.length → ¬ N c → r c < w.heap.size := fun c hc hnc => h.lt (List.getElem?_eq_getElem hc) hnc
 refine ⟨fun b B hB hn => ?_, fun b b' hb hb' hn hn' he => ?_⟩
 ·by_cases e : b = b0
  ·subst e
   obtain rfl : B0 = B := by rw [hb0] at hB; simpa using hB
   simp only [if_true]
   exact ⟨Nat.le_trans (hbase _) hk, cs, hcell, (hcs.re hr).mono hsub⟩
  ·have hnN : ¬ N b := fun q => ((hN b).1 q).elim hn e
   have hB' := hbl b B hB hnN
   obtain ⟨h1, cs', hk', hc⟩ := h.is b B hB' hnN
   simp only [e, if_false]
   exact ⟨h1, cs', (hbel.block _ (h.lt hB' hnN)).trans hk', (hc.re hr).mono hsub⟩
 ·by_cases e : b = b0
  ·by_cases e' : b' = b0
   ·rw [e, e']
   ·have hn2 : ¬ N b' := fun q => ((hN b').1 q).elim hn' e'
    have := lt b' (hlen b' hb' hn2) hn2
    simp only [e, e', if_true, if_false] at he
    omega
  ·have hn2 : ¬ N b := fun q => ((hN b).1 q).elim hn e
   have h1 := lt b (hlen b hb hn2) hn2
   by_cases e' : b' = b0
   ·simp only [e, e', if_true, if_false] at he
    omega
   ·have hn3 : ¬ N b' := fun q => ((hN b').1 q).elim hn' e'
    simp only [e, e', if_false] at he
    exact h.inj b b' (hlen b hb hn2) (hlen b' hb' hn3) hn2 hn3 he
def setCellsS (cells : List SV) (n : Nat) (vs : List SV) : List SV := cells.take n ++ vs ++ cells.drop (n + vs.length)
def setBl (bl : List Bk) (b n : Nat) (vs : List SV) : List Bk :=
 match bl[b]? with
 | some B => bl.set b ⟨setCellsS B.cells n vs, B.t⟩
 | none => bl
theorem CellsOk.set {r : Nat → Nat} {N : Nat → Prop} {ss vs : List SV} {cs us : Array Value} {n : Nat} (h : CellsOk r N ss cs) (hv : CellsOk r N vs us) (hn : n + vs.length ≤ ss.length) :
  CellsOk r N (setCellsS ss n vs) (cs.toList.take n ++ us.toList ++ cs.toList.drop (n + us.size)).toArray := by
 have e1 : cs.toList.length = ss.length := by simpa using h.1
 have e2 : us.toList.length = vs.length := by simpa using hv.1
 have e3 : us.size = vs.length := hv.1
 refine ⟨?_, fun i s hi => ?_⟩
 ·simp only [setCellsS, List.size_toArray, List.length_append, List.length_take, List.length_drop]; omega
 ·simp only [List.getElem?_toArray]
  unfold setCellsS at hi
  rw [List.getElem?_append] at hi ⊢
  have el : (cs.toList.take n ++ us.toList).length = (ss.take n ++ vs).length := by simp only [List.length_append, List.length_take]; omega
  rw [el]
  split at hi
  ·rename_i hlt
   rw [if_pos hlt]
   rw [List.getElem?_append] at hi ⊢
   have el2 : (cs.toList.take n).length = (ss.take n).length := by simp only [List.length_take]; omega
   rw [el2]
   split at hi
   ·rename_i hlt2
    rw [if_pos hlt2]
    have : i < n := by simp only [List.length_take] at hlt2; omega
    rw [List.getElem?_take, if_pos this] at hi ⊢
    obtain ⟨u, hu, ho⟩ := h.2 i s hi
    exact ⟨u, by simpa using hu, ho⟩
   ·rename_i hge
    rw [if_neg hge]
    obtain ⟨u, hu, ho⟩ := hv.2 _ s hi
    exact ⟨u, by simpa using hu, ho⟩
  ·rename_i hge
   rw [if_neg hge]
   rw [List.getElem?_drop] at hi ⊢
   rw [e3]
   obtain ⟨u, hu, ho⟩ := h.2 _ s hi
   exact ⟨u, by simpa using hu, ho⟩
theorem BlOk.store {r : Nat → Nat} {N : Nat → Prop} {bl : List Bk} {base : TypeId → Nat} {b n : Nat} {B : Bk} {vs : List SV} {cs us : Array Value} {w : World} (h : BlOk r N bl base w) (hB : bl[b]? = some B) (hnb : ¬ N b)
  (hn : n + vs.length ≤ B.cells.length) (hk : w.heap[r b]? = some (.cells cs B.t (0, 0))) (hcs : CellsOk r N B.cells cs) (hus : CellsOk r N vs us) :
  BlOk r N (setBl bl b n vs) base (w.setRow (r b) (cs.toList.take n ++ us.toList ++ cs.toList.drop (n + us.size)).toArray) := by
 have hlt : b < bl.length := (List.getElem?_eq_some_iff.1 hB).1
 have e : setBl bl b n vs = bl.set b ⟨setCellsS B.cells n vs, B.t⟩ := by simp only [setBl, hB]
 rw [e]
 refine ⟨fun c B' hc hnc => ?_, fun c c' hc hc' hnc hnc' he => h.inj c c' (by simpa using hc) (by simpa using hc') hnc hnc' he⟩
 rw [List.getElem?_set] at hc
 split at hc
 ·rename_i hbc
  subst hbc
  obtain rfl : (⟨setCellsS B.cells n vs, B.t⟩ : Bk) = B' := by simpa using hc
  exact ⟨(h.is b B hB hnb).1, _, setRow_heap w (r b) cs _ B.t _ hk, hcs.set hus hn⟩
 ·rename_i hbc
  obtain ⟨h1, cs', hk', hc'⟩ := h.is c B' hc hnc
  have hne : r c ≠ r b := fun e => hbc (h.inj c b (List.getElem?_eq_some_iff.1 hc).1 hlt hnc hnb e).symm
  exact ⟨h1, cs', (setRow_other w (r b) (r c) _ hne).trans hk', hc'⟩
theorem below_setRow' {B : Nat} {a w : World} (h : Below B a w) {g : Nat} (hg : B ≤ g) (cs : Array Value) : Below B a (w.setRow g cs) :=
 h.trans ⟨rfl, rfl, rfl, by simp, fun k hk => setRow_other w g k _ (by omega)⟩
end
section
variable {P : Program}
abbrev Pd := List (Nat × Option Nat)
def DS (ops : Array Oper) (S : Pd) (t : Nat) : Prop := ∃ p ∈ S, (ops[p.1]?).bind (·.dst) = some t
def NS (bl : List Bk) (S : Pd) (b : Nat) : Prop := (∃ p ∈ S, p.2 = some b) ∨ bl.length ≤ b
structure FloatOk (P : Program) (ops : Array Oper) (lst : List Nat) (pd : Pd) (fr : List SV) (bl : List Bk) (k : Nat) (nb : Option Nat) (o : Oper) : Prop where
 op : ops[k]? = some o
 own : ∀ d, o.dst = some d → d ∉ o.looksAt ops ∧ d < fr.length
 aft : ∀ m ∈ afterB o, m ∈ lst
 see : ∀ m om d, ops[m]? = some om → m ≠ k → om.dst = some d → d ∈ o.looksAt ops → m ∈ afterB o ∨ (m ∈ lst ∧ ∀ p ∈ pd, p.1 ≠ m) ∨ k ∈ afterB om
 apart : ∀ m om d, ops[m]? = some om → m ≠ k → om.dst = some d → o.dst ≠ some d
 ev : (gd ops fr o = some false ∧ nb = none ∧ ∀ d, o.dst = some d → fr[d]? = some (.val undef)) ∨
  (gd ops fr o = some true ∧ nb = none ∧ ∃ s, evOp P fr bl o = some (.value s) ∧ ∀ d, o.dst = some d → fr[d]? = some s) ∨
  (gd ops fr o = some true ∧ ∃ B kd b d, nb = some b ∧ evOp P fr bl o = some (.alloc B kd) ∧ o.dst = some d ∧ fr[d]? = some (mkS b kd) ∧ bl[b]? = some B)
structure PInv (P : Program) (ops : Array Oper) (lst : List Nat) (pd : Pd) (fr : List SV) (bl : List Bk) : Prop where
 lt : ∀ k ∈ lst, k < ops.size
 sub : ∀ p ∈ pd, p.1 ∈ lst
 fl : ∀ p ∈ pd, ∃ o, FloatOk P ops lst pd fr bl p.1 p.2 o
 one : ∀ p ∈ pd, ∀ q ∈ pd, p.1 = q.1 → p = q
 blk : ∀ p ∈ pd, ∀ q ∈ pd, ∀ b, p.2 = some b → q.2 = some b → p = q
 wr : ∀ p ∈ pd, ∀ q ∈ pd, ∀ o o' d, ops[p.1]? = some o → ops[q.1]? = some o' → p.1 ∈ afterB o' → o'.dst = some d → d ∉ o.looksAt ops
def LOk (ops : Array Oper) (lst : List Nat) (S : Pd) (L : Array Bool) : Prop := L.size = ops.size ∧ ∀ i, i < ops.size → (L.getD i true = true ↔ i ∈ lst ∧ ∀ p ∈ S, p.1 ≠ i)
def Down (ops : Array Oper) : Prop := ∀ i o, ops[i]? = some o → ∀ m ∈ afterB o, m < i
def cnt (L : Array Bool) : Nat := L.toList.countP (! ·)

theorem getD_tf {L : Array Bool} {i : Nat} (h : i < L.size) : L.getD i true = L.getD i false := by simp [Array.getD_eq_getD_getElem?, h]
theorem cnt_set {L : Array Bool} {i : Nat} (h : L.getD i true = false) : cnt (L.setIfInBounds i true) + 1 = cnt L := by
 have hi : i < L.size := by
  rcases Nat.lt_or_ge i L.size with h' | h'
  ·exact h'
  ·simp [Array.getD_eq_getD_getElem?, Array.getElem?_eq_none h'] at h
 have hv : L.toList[i]'(by simpa using hi) = false := by simpa [Array.getD_eq_getD_getElem?, hi] using h
 unfold cnt
 have e := List.countP_set (p := (! ·)) (l := L.toList) (i := i) (a := true) (by simpa using hi)
 rw [hv] at e
 rw [Array.toList_setIfInBounds, e]
 have : 0 < L.toList.countP (! ·) := List.countP_pos_iff.2 ⟨false, by rw [← hv]; exact List.getElem_mem _, rfl⟩
 have e1 : (if (!false) = true then 1 else 0) = 1 := rfl
 have e2 : (if (!true) = true then 1 else 0) = 0 := rfl
 rw [e1, e2]; omega
theorem cnt_pos {L : Array Bool} {i : Nat} (h : L.getD i true = false) : 0 < cnt L := by have := cnt_set h; omega
theorem all_listed {ops : Array Oper} {L : Array Bool} (hd : Down ops) (hL : L.size = ops.size) (h : Region.ready .any ops L = []) : ∀ i, i < ops.size → L.getD i true = true := by
 intro i
 induction i using Nat.strongRecOn with
 | _ i ih =>
  intro hi
  cases hc : L.getD i true with
  | true => rfl
  | false =>
   have : i ∈ Region.ready .any ops L := mem_ready.2 ⟨hc, ops[i], by simp [hi], fun e he hb => by
    have hm := hd i ops[i] (by simp [hi]) e.on (mem_afterB.2 ⟨e, he, hb, rfl⟩)
    rw [← getD_tf (by omega)]; exact ih e.on hm (by omega)⟩
   rw [h] at this; cases this

theorem looks_sub {ops : Array Oper} {o : Oper} {t : Nat} (h : t ∈ opTmps o) : t ∈ o.looksAt ops := List.mem_append_left _ h
theorem FrOk.late {r : Nat → Nat} {N : Nat → Prop} {fr : List SV} {D D' : Nat → Prop} {a : Act} {d : Option Tmp} {s : SV} {u : Value} (h : FrOk r N fr D a) (hD : ∀ t, D t → D' t ∨ d = some t)
  (hs : ∀ t, d = some t → fr[t]? = some s) (ho : s.Ok r N u) : FrOk r N fr D' (a.put d u) := by
 cases d with
 | none => exact h.mono (fun _ k => k) fun t k => (hD t k).resolve_right (by simp)
 | some d =>
  refine ⟨by simp [Act.put, h.size], fun t s' ht hd => ?_, h.nod⟩
  by_cases e : d = t
  ·subst e
   have hlt : d < fr.length := (List.getElem?_eq_some_iff.1 ht).1
   obtain rfl : s = s' := by have := hs d rfl; rw [ht] at this; simpa using this.symm
   exact ⟨u, by simp [Act.put, h.size, hlt], ho⟩
  ·obtain ⟨u', hu', ho'⟩ := h.at_ t s' ht fun k => hd ((hD t k).resolve_right (by simpa using e))
   exact ⟨u', by simp [Act.put, Array.getElem?_setIfInBounds_ne e, hu'], ho'⟩
theorem wpOp_no {ops : Array Oper} {Q : Exit → Act → World → Prop} {i : Nat} {o : Oper} {K : Act → World → Prop} {a : Act} {w : World} (ho : ops[i]? = some o) (hw : Region.wanted o (yielded ops a.tmps) = false)
  (h : K (a.put o.dst undef) w) : wpOp P ops Q i K a w := by
 unfold wpOp; simp only [ho, hw, Bool.false_eq_true, if_false]; exact h
theorem wpOp_val {ops : Array Oper} {Q : Exit → Act → World → Prop} {i : Nat} {o : Oper} {K : Act → World → Prop} {a : Act} {w w' : World} {u : Value} (ho : ops[i]? = some o) (hw : Region.wanted o (yielded ops a.tmps) = true)
  (hr : (execOp a.eval o).run P w = .ok (.value u) w') (h : K (a.put o.dst u) w') : wpOp P ops Q i K a w := by
 unfold wpOp; simp only [ho, hw, if_true]; left; unfold Oper.wp; rw [hr]; exact h
theorem wpOp_skip {ops : Array Oper} {Q : Exit → Act → World → Prop} {i : Nat} {o : Oper} {K : Act → World → Prop} {a : Act} {w w' : World} (ho : ops[i]? = some o) (hw : Region.wanted o (yielded ops a.tmps) = true)
  (hr : (execOp a.eval o).run P w = .ok .skip w') (h : K (a.put o.dst undef) w') : wpOp P ops Q i K a w := by
 unfold wpOp; simp only [ho, hw, if_true]; left; unfold Oper.wp; rw [hr]; exact h

variable {C : Cx} {G : World → Prop} {ops : Array Oper} {lst : List Nat} {pd : Pd} {fr : List SV} {bl : List Bk} {Q : Exit → Act → World → Prop}
theorem St.alloc {r : Nat → Nat} {N : Nat → Prop} {D : Nat → Prop} {a : Act} {w : World} (h : St C G fr bl r N D a w) (hs : Stable C.E G) (o : Obj) : G (w.alloc o) := hs w _ (Keep.below ((Below.refl _ w).alloc (Nat.le_refl _) o)) h.fact
theorem seen_ok {S : Pd} {L : Array Bool} {i : Nat} {o : Oper} (ho : ops[i]? = some o) (hS : ∀ q ∈ S, q ∈ pd) (hL : LOk ops lst S L) (hr : i ∈ Region.ready .any ops L)
  (own : ∀ d, o.dst = some d → d ∉ o.looksAt ops) (see : ∀ m om d, ops[m]? = some om → m ≠ i → om.dst = some d → d ∈ o.looksAt ops → m ∈ afterB o ∨ (m ∈ lst ∧ ∀ p ∈ pd, p.1 ≠ m) ∨ i ∈ afterB om)
  (wt : ∀ q ∈ S, ∀ om d, ops[q.1]? = some om → i ∈ afterB om → om.dst = some d → d ∉ o.looksAt ops) :
  ∀ t ∈ o.looksAt ops, ¬ DS ops S t := by
 rintro t ht ⟨q, hq, hd⟩
 obtain ⟨om, hom, hdm⟩ := Option.bind_eq_some_iff.1 hd
 by_cases e : q.1 = i
 ·rw [e, ho] at hom
  obtain rfl : o = om := by simpa using hom
  exact own t hdm ht
 ·rcases see q.1 om t hom e hdm ht with h | h | h
  ·obtain ⟨ev, he, hb, hon⟩ := mem_afterB.1 h
   obtain ⟨-, o', ho', hall⟩ := mem_ready.1 hr
   rw [ho] at ho'
   obtain rfl : o = o' := by simpa using ho'
   have h1 := hall ev he hb
   rw [hon] at h1
   have hlt : q.1 < ops.size := (Array.getElem?_eq_some_iff.1 hom).1
   rw [← getD_tf (by rw [hL.1]; exact hlt)] at h1
   exact ((hL.2 q.1 hlt).1 h1).2 q hq rfl
  ·exact h.2 q (hS q hq) rfl
  ·exact wt q hq om t hom h hdm ht
theorem wt_chain {S : Pd} {i : Nat} {o : Oper} (hI : PInv C.P ops lst pd fr bl) (hS : ∀ q ∈ S, q ∈ pd) (hl : i ∉ lst) : ∀ q ∈ S, ∀ om d, ops[q.1]? = some om → i ∈ afterB om → om.dst = some d → d ∉ o.looksAt ops := fun q hq om d hom hia _ _ => by
 obtain ⟨o', hf⟩ := hI.fl q (hS q hq)
 have e := hf.op
 rw [hom] at e
 obtain rfl : om = o' := by simpa using e
 exact hl (hf.aft i hia)
theorem float_op {S : Pd} {L : Array Bool} {p : Nat × Option Nat} {r : Nat → Nat} {a : Act} {w : World} {K : Act → World → Prop} (hI : PInv C.P ops lst pd fr bl) (hs : Stable C.E G) (hS : ∀ q ∈ S, q ∈ pd) (hp : p ∈ S)
  (hL : LOk ops lst S L) (hr : p.1 ∈ Region.ready .any ops L) (hst : St C G fr bl r (NS bl S) (DS ops S) a w)
  (hK : ∀ r' a' w', St C G fr bl r' (NS bl (S.filter fun q => !Nat.beq q.1 p.1)) (DS ops (S.filter fun q => !Nat.beq q.1 p.1)) a' w' → K a' w') : wpOp C.P ops Q p.1 K a w := by
 obtain ⟨o, hf⟩ := hI.fl p (hS p hp)
 have hno := seen_ok hf.op hS hL hr (fun d hd => (hf.own d hd).1) hf.see fun q hq om d hom hia hd => hI.wr p (hS p hp) q (hS q hq) o om d hf.op hom hia hd
 have hnt : ∀ t ∈ opTmps o, ¬ DS ops S t := fun t ht => hno t (looks_sub ht)
 have memF : ∀ q, q ∈ S.filter (fun q => !Nat.beq q.1 p.1) ↔ q ∈ S ∧ q.1 ≠ p.1 := fun q => by
  rw [List.mem_filter]
  constructor
  ·rintro ⟨h1, h2⟩; exact ⟨h1, fun e => by rw [e, Nat.beq_refl] at h2; cases h2⟩
  ·rintro ⟨h1, h2⟩
   refine ⟨h1, ?_⟩
   cases h : Nat.beq q.1 p.1 with
   | true => exact absurd (Nat.eq_of_beq_eq_true h) h2
   | false => rfl
 have hD : ∀ t, DS ops S t → DS ops (S.filter fun q => !Nat.beq q.1 p.1) t ∨ o.dst = some t := by
  rintro t ⟨q, hq, hd⟩
  by_cases e : q.1 = p.1
  ·right; rw [e, hf.op] at hd; simpa using hd
  ·left; exact ⟨q, (memF q).2 ⟨hq, e⟩, hd⟩
 have hN : ∀ b, NS bl (S.filter fun q => !Nat.beq q.1 p.1) b → NS bl S b := by
  rintro b (⟨q, hq, hb⟩ | hb)
  ·exact .inl ⟨q, ((memF q).1 hq).1, hb⟩
  ·exact .inr hb
 rcases hf.ev with ⟨hg, hnb, hv⟩ | ⟨hg, hnb, s, he, hv⟩ | ⟨hg, B, kd, b, d, hnb, he, hd, hv, hB⟩
 ·refine wpOp_no hf.op (gd_ok hg hst.fr hno) (hK r _ w ⟨(hst.fr.late hD hv ⟨rfl, trivial⟩).mono hN fun _ k => k, ?_, hst.w0, hst.fact⟩)
  have hN' : ∀ b, NS bl S b → NS bl (S.filter fun q => !Nat.beq q.1 p.1) b := by
   rintro b (⟨q, hq, hb⟩ | hb)
   ·refine .inl ⟨q, (memF q).2 ⟨hq, fun e => ?_⟩, hb⟩
    have := hI.one q (hS q hq) p (hS p hp) e
    rw [this, hnb] at hb; cases hb
   ·exact .inr hb
  exact ⟨fun b B hB hn => (hst.bl.is b B hB fun k => hn (hN' b k)).imp id fun ⟨cs, h1, h2⟩ => ⟨cs, h1, h2.mono hN⟩, fun b b' h1 h2 h3 h4 => hst.bl.inj b b' h1 h2 (fun k => h3 (hN' b k)) fun k => h4 (hN' b' k)⟩
 ·obtain ⟨u, ho, hrun⟩ := evOp_ok he hst.fr hnt hst.bl
  refine wpOp_val hf.op (gd_ok hg hst.fr hno) hrun (hK r _ w ⟨(hst.fr.late hD hv ho).mono hN fun _ k => k, ?_, hst.w0, hst.fact⟩)
  have hN' : ∀ b, NS bl S b → NS bl (S.filter fun q => !Nat.beq q.1 p.1) b := by
   rintro b (⟨q, hq, hb⟩ | hb)
   ·refine .inl ⟨q, (memF q).2 ⟨hq, fun e => ?_⟩, hb⟩
    have := hI.one q (hS q hq) p (hS p hp) e
    rw [this, hnb] at hb; cases hb
   ·exact .inr hb
  exact ⟨fun b B hB hn => (hst.bl.is b B hB fun k => hn (hN' b k)).imp id fun ⟨cs, h1, h2⟩ => ⟨cs, h1, h2.mono hN⟩, fun b b' h1 h2 h3 h4 => hst.bl.inj b b' h1 h2 (fun k => h3 (hN' b k)) fun k => h4 (hN' b' k)⟩
 ·obtain ⟨cs, hcs, hrun⟩ := evOp_ok he hst.fr hnt hst.bl
  have hblt : b < bl.length := (List.getElem?_eq_some_iff.1 hB).1
  have hiff : ∀ c, NS bl S c ↔ (NS bl (S.filter fun q => !Nat.beq q.1 p.1) c ∨ c = b) := fun c => by
   constructor
   ·rintro (⟨q, hq, hc⟩ | hc)
    ·by_cases e : q.1 = p.1
     ·have := hI.one q (hS q hq) p (hS p hp) e
      rw [this, hnb] at hc; right; simpa using hc.symm
     ·exact .inl (.inl ⟨q, (memF q).2 ⟨hq, e⟩, hc⟩)
    ·exact .inl (.inr hc)
   ·rintro (h | rfl)
    ·exact hN c h
    ·exact .inl ⟨p, hp, hnb⟩
  have hnb' : ¬ NS bl (S.filter fun q => !Nat.beq q.1 p.1) b := by
   rintro (⟨q, hq, hc⟩ | hc)
   ·have h1 := (memF q).1 hq
    have := hI.blk q (hS q h1.1) p (hS p hp) b hc hnb
    exact h1.2 (by rw [this])
   ·omega
  have hr' : ∀ c, ¬ NS bl S c → (fun c => if c = b then w.heap.size else r c) c = r c := fun c hc => by
   have : c ≠ b := fun e => hc ((hiff c).2 (.inr e))
   simp [this]
  refine wpOp_val hf.op (gd_ok hg hst.fr hno) hrun (hK (fun c => if c = b then w.heap.size else r c) _ _ ⟨?_, ?_, ?_, hst.alloc hs _⟩)
  ·refine ((hst.fr.re hr').mono hN fun _ k => k).late hD (s := mkS b kd) (fun t ht => ?_) (mkS_ok (by simp) hnb')
   rw [hd] at ht; obtain rfl : d = t := by simpa using ht
   exact hv
  ·exact hst.bl.make (fun t => Nat.le_trans (C.base_le t) hst.w0.size) hB hiff hnb' hcs
  ·exact hst.w0.alloc hst.w0.size _
theorem drain (hd : Down ops) (hI : PInv C.P ops lst pd fr bl) (hs : Stable C.E G)
  (hchain : ∀ S r a w L fuel i, (∀ q ∈ S, q ∈ pd) → LOk ops lst S L → cnt L ≤ fuel + 1 → St C G fr bl r (NS bl S) (DS ops S) a w → i ∈ Region.ready .any ops L → i ∉ lst →
   wpOp C.P ops Q i (wpAny C.P .any ops Q fuel (L.setIfInBounds i true)) a w)
  (hend : (∀ i, i < ops.size → i ∈ lst) → ∀ r a w, St C G fr bl r (NS bl []) (DS ops []) a w → Q .normal a w) :
  ∀ fuel S r a w L, (∀ q ∈ S, q ∈ pd) → LOk ops lst S L → cnt L ≤ fuel → St C G fr bl r (NS bl S) (DS ops S) a w → wpAny C.P .any ops Q fuel L a w := by
 have fin : ∀ S r a w L, (∀ q ∈ S, q ∈ pd) → LOk ops lst S L → (∀ i, i < ops.size → L.getD i true = true) → St C G fr bl r (NS bl S) (DS ops S) a w → Q .normal a w := by
  intro S r a w L hS hL hall hst
  have hnil : S = [] := by
   cases S with
   | nil => rfl
   | cons p S =>
    have hp : p.1 < ops.size := hI.lt _ (hI.sub p (hS p (by simp)))
    exact absurd rfl (((hL.2 p.1 hp).1 (hall p.1 hp)).2 p (by simp))
  subst hnil
  exact hend (fun i hi => ((hL.2 i hi).1 (hall i hi)).1) r a w hst
 intro fuel
 induction fuel with
 | zero =>
  intro S r a w L hS hL hc hst
  have hall : ∀ i, i < ops.size → L.getD i true = true := fun i hi => by
   cases h : L.getD i true with
   | true => rfl
   | false => have := cnt_pos h; omega
  refine ⟨?_, fin S r a w L hS hL hall hst⟩
  cases hrd : Region.ready .any ops L with
  | nil => rfl
  | cons x xs =>
   have hx := mem_ready.1 (show x ∈ Region.ready .any ops L by rw [hrd]; simp)
   obtain ⟨h0, o, ho, -⟩ := hx
   rw [hall x (Array.getElem?_eq_some_iff.1 ho).1] at h0; cases h0
 | succ fuel ih =>
  intro S r a w L hS hL hc hst
  refine ⟨fun hnil => fin S r a w L hS hL (all_listed hd hL.1 hnil) hst, fun i hi => ?_⟩
  have hrdy := mem_ready.1 hi
  obtain ⟨h0, o, ho, -⟩ := hrdy
  have hlt : i < ops.size := (Array.getElem?_eq_some_iff.1 ho).1
  by_cases hl : i ∈ lst
  ·have : ∃ p ∈ S, p.1 = i := by
    apply Classical.byContradiction
    intro hno
    have := (hL.2 i hlt).2 ⟨hl, fun p hp e => hno ⟨p, hp, e⟩⟩
    rw [this] at h0; cases h0
   obtain ⟨p, hp, rfl⟩ := this
   refine float_op hI hs hS hp hL hi hst fun r' a' w' hst' => ?_
   refine ih _ r' a' w' _ (fun q hq => hS q (List.mem_filter.1 hq).1) ⟨by simpa using hL.1, fun j hj => ?_⟩ (by have := cnt_set h0; omega) hst'
   by_cases e : p.1 = j
   ·subst e
    have : (L.setIfInBounds p.1 true).getD p.1 true = true := by simp [Array.getD_eq_getD_getElem?, hL.1, hj]
    rw [this]
    refine ⟨fun _ => ⟨hl, fun q hq hqe => ?_⟩, fun _ => rfl⟩
    have := (List.mem_filter.1 hq).2
    rw [hqe, Nat.beq_refl] at this; cases this
   ·rw [getD_set_ne true e]
    rw [hL.2 j hj]
    refine ⟨fun h => ⟨h.1, fun q hq => h.2 q (List.mem_filter.1 hq).1⟩, fun h => ⟨h.1, fun q hq => ?_⟩⟩
    by_cases e' : q.1 = p.1
    ·rw [e']; exact e
    ·refine h.2 q (List.mem_filter.2 ⟨hq, ?_⟩)
     cases hb : Nat.beq q.1 p.1 with
     | true => exact absurd (Nat.eq_of_beq_eq_true hb) e'
     | false => rfl
  ·exact hchain S r a w L fuel i hS hL hc hst hi hl
end
/-! ### The reckoner -/
def downB (ops : Array Oper) : Bool := (List.range ops.size).all fun i => match ops[i]? with
 | some o => (afterB o).all (Nat.blt · i)
 | none => true
theorem downB_ok {ops : Array Oper} (h : downB ops = true) : Down ops := fun i o ho m hm => by
 have hlt : i < ops.size := (Array.getElem?_eq_some_iff.1 ho).1
 have := List.all_eq_true.1 h i (List.mem_range.2 hlt)
 rw [ho] at this
 simpa [Nat.blt_eq] using List.all_eq_true.1 this m hm
def readyB (lst : List Nat) (i : Nat) (o : Oper) : Bool := !memN i lst && (afterB o).all (memN · lst)
def readyL (ops : Array Oper) (lst : List Nat) : List Nat := (List.range ops.size).filter fun i => match ops[i]? with
 | some o => readyB lst i o
 | none => false
theorem mem_readyL {ops : Array Oper} {lst : List Nat} {i : Nat} : i ∈ readyL ops lst ↔ ∃ o, ops[i]? = some o ∧ i ∉ lst ∧ ∀ m ∈ afterB o, m ∈ lst := by
 unfold readyL
 rw [List.mem_filter, List.mem_range]
 constructor
 ·rintro ⟨hlt, h⟩
  rw [Array.getElem?_eq_getElem hlt] at h
  simp only [readyB, Bool.and_eq_true, Bool.not_eq_true'] at h
  refine ⟨ops[i], Array.getElem?_eq_getElem hlt, fun hm => ?_, fun m hm => memN_iff.1 (List.all_eq_true.1 h.2 m hm)⟩
  rw [memN_iff.2 hm] at h; cases h.1
 ·rintro ⟨o, ho, h1, h2⟩
  refine ⟨(Array.getElem?_eq_some_iff.1 ho).1, ?_⟩
  rw [ho]
  simp only [readyB, Bool.and_eq_true, Bool.not_eq_true']
  refine ⟨?_, List.all_eq_true.2 fun m hm => memN_iff.2 (h2 m hm)⟩
  cases hb : memN i lst with
  | false => rfl
  | true => exact absurd (memN_iff.1 hb) h1
def okOwn (ops : Array Oper) (fr : List SV) (o : Oper) : Bool := match o.dst with
 | none => true
 | some d => !memN d (o.looksAt ops) && Nat.blt d fr.length
def okSee (ops : Array Oper) (lst : List Nat) (pd : Pd) (k : Nat) (o : Oper) : Bool := (List.range ops.size).all fun m => Nat.beq m k || match ops[m]? with
 | none => true
 | some om => match om.dst with
  | none => true
  | some d => (!memN d (o.looksAt ops) || memN m (afterB o) || (memN m lst && !(pd.any fun p => Nat.beq p.1 m)) || memN k (afterB om)) && (match o.dst with
   | some d' => !Nat.beq d' d
   | none => true)
def okWr (ops : Array Oper) (pd : Pd) (o : Oper) : Bool := pd.all fun p => !memN p.1 (afterB o) || match o.dst with
 | none => true
 | some d => match ops[p.1]? with
  | some o' => !memN d (o'.looksAt ops)
  | none => true
theorem okWr_ok {ops : Array Oper} {pd : Pd} {o : Oper} (h : okWr ops pd o = true) : ∀ p ∈ pd, ∀ o' d, ops[p.1]? = some o' → p.1 ∈ afterB o → o.dst = some d → d ∉ o'.looksAt ops := fun p hp o' d ho' ha hd hm => by
 have h1 := List.all_eq_true.1 h p hp
 rw [memN_iff.2 ha, Bool.not_true, Bool.false_or, hd] at h1
 simp only [ho', memN_iff.2 hm] at h1
 cases h1
theorem okOwn_ok {ops : Array Oper} {fr : List SV} {o : Oper} (h : okOwn ops fr o = true) : ∀ d, o.dst = some d → d ∉ o.looksAt ops ∧ d < fr.length := fun d hd => by
 simp only [okOwn, hd, Bool.and_eq_true, Bool.not_eq_true'] at h
 refine ⟨fun hm => ?_, by simpa [Nat.blt_eq] using h.2⟩
 rw [memN_iff.2 hm] at h; cases h.1
theorem okSee_ok {ops : Array Oper} {lst : List Nat} {pd : Pd} {k : Nat} {o : Oper} (h : okSee ops lst pd k o = true) :
  (∀ m om d, ops[m]? = some om → m ≠ k → om.dst = some d → d ∈ o.looksAt ops → m ∈ afterB o ∨ (m ∈ lst ∧ ∀ p ∈ pd, p.1 ≠ m) ∨ k ∈ afterB om) ∧ (∀ m om d, ops[m]? = some om → m ≠ k → om.dst = some d → o.dst ≠ some d) := by
 have key : ∀ m om d, ops[m]? = some om → m ≠ k → om.dst = some d → ((!memN d (o.looksAt ops) || memN m (afterB o) || (memN m lst && !(pd.any fun p => Nat.beq p.1 m)) || memN k (afterB om)) && (match o.dst with
   | some d' => !Nat.beq d' d
   | none => true)) = true := fun m om d ho hk hd => by
  have h1 := List.all_eq_true.1 h m (List.mem_range.2 (Array.getElem?_eq_some_iff.1 ho).1)
  rw [ho] at h1
  simp only [hd] at h1
  have : Nat.beq m k = false := by
   cases hb : Nat.beq m k with
   | false => rfl
   | true => exact absurd (Nat.eq_of_beq_eq_true hb) hk
  rw [this, Bool.false_or] at h1
  exact h1
 refine ⟨fun m om d ho hk hd hl => ?_, fun m om d ho hk hd he => ?_⟩
 ·have h1 := (Bool.and_eq_true _ _ ▸ key m om d ho hk hd).1
  rw [memN_iff.2 hl, Bool.not_true, Bool.false_or, Bool.or_eq_true, Bool.or_eq_true] at h1
  rcases h1 with (h1 | h1) | h1
  ·exact .inl (memN_iff.1 h1)
  rotate_left
  ·exact .inr (.inr (memN_iff.1 h1))
  ·right
   left
   simp only [Bool.and_eq_true, Bool.not_eq_true'] at h1
   refine ⟨memN_iff.1 h1.1, fun p hp e => ?_⟩
   have e2 : (pd.any fun p => Nat.beq p.1 m) = true := List.any_eq_true.2 ⟨p, hp, by rw [e]; exact Nat.beq_refl m⟩
   rw [h1.2] at e2; cases e2
 ·have h1 := (Bool.and_eq_true _ _ ▸ key m om d ho hk hd).2
  rw [he] at h1
  simp [Nat.beq_refl] at h1
def isF (ops : Array Oper) (fr : List SV) (o : Oper) : Bool := match gd ops fr o with
 | some false => true
 | some true => match o.op with
  | .store _ _ _ => false
  | .call c => match c.callee with
   | .builtin _ => true
   | _ => false
  | _ => true
 | none => false
def firstF (ops : Array Oper) (fr : List SV) : List Nat → Option Nat
 | [] => none
 | i :: l => match ops[i]? with
  | none => none
  | some o => match isF ops fr o with
   | true => some i
   | false => firstF ops fr l
theorem firstF_mem {ops : Array Oper} {fr : List SV} : ∀ {l : List Nat} {k : Nat}, firstF ops fr l = some k → k ∈ l
 | [], k, h => by cases h
 | i :: l, k, h => by
  simp only [firstF] at h
  split at h
  ·cases h
  ·split at h
   ·obtain rfl : i = k := by simpa using h
    simp
   ·exact List.mem_cons_of_mem _ (firstF_mem h)
def evBlk (fr : List SV) (o : Oper) : Option Nat := match o.op with
 | .load _ x => match opS fr x with
  | .ptr b _ => some b
  | _ => none
 | .store _ x _ => match opS fr x with
  | .ptr b _ => some b
  | _ => none
 | _ => none
def pdBehind (pd : Pd) (o : Oper) : Pd := pd.filter fun p => !memN p.1 (afterB o)
def apartB (ops : Array Oper) (fr : List SV) (b : Nat) (pd : Pd) : Bool := pd.all fun p => (match p.2 with
 | some b' => !Nat.beq b' b
 | none => true) && (match ops[p.1]? with
 | some o => match evBlk fr o with
  | some b' => !Nat.beq b' b
  | none => true
 | none => true)
def eB (E : List TypeId) (bl : List Bk) (b : Nat) : Bool := match bl[b]? with
 | some B => !memN B.t E
 | none => false
def dstOf (ops : Array Oper) (i : Nat) : Option Tmp := (ops[i]?).bind (·.dst)

def stpC (c : Cf) : Option (Option Tmp × Cf) := match c.todo with
 | .code x :: k => match x with
  | .skip => some (none, ⟨k, none, c.fr, c.bl⟩)
  | .label _ => some (none, ⟨k, none, c.fr, c.bl⟩)
  | .seq a b => some (none, ⟨.code a :: .code b :: k, none, c.fr, c.bl⟩)
  | .cond x a b => match opS c.fr x with
   | .val (.bool t) => some (none, ⟨.code (match t with | true => a | false => b) :: k, none, c.fr, c.bl⟩)
   | _ => none
  | .block id a => some (none, ⟨.code a :: .inBlock id :: k, none, c.fr, c.bl⟩)
  | .exit id => match exitTo id k with
   | some k' => some (none, ⟨k', none, c.fr, c.bl⟩)
   | none => none
  | .region _ ops draw => match draw with
   | false => some (none, ⟨k, some (.plain ops (List.range ops.size)), c.fr, c.bl⟩)
   | true => match downB ops with
    | true => some (none, ⟨k, some (.drawn ops [] []), c.fr, c.bl⟩)
    | false => none
  | _ => none
 | .inBlock _ :: k => some (none, ⟨k, none, c.fr, c.bl⟩)
 | _ => none
def stpP (P : Program) (E : List TypeId) (ops : Array Oper) (c : Cf) : List Nat → Option (Option Tmp × Cf)
 | [] => some (none, ⟨c.todo, none, c.fr, c.bl⟩)
 | i :: l => match ops[i]? with
  | none => some (none, ⟨c.todo, some (.plain ops l), c.fr, c.bl⟩)
  | some o => match gd ops c.fr o with
   | none => none
   | some false => some (o.dst, ⟨c.todo, some (.plain ops l), putS c.fr o.dst (.val undef), c.bl⟩)
   | some true => match evOp P c.fr c.bl o with
    | some (.value s) => some (o.dst, ⟨c.todo, some (.plain ops l), putS c.fr o.dst s, c.bl⟩)
    | some (.alloc B kd) => some (o.dst, ⟨c.todo, some (.plain ops l), putS c.fr o.dst (mkS c.bl.length kd), c.bl ++ [B]⟩)
    | some (.store b n vs) => match eB E c.bl b with
     | true => some (o.dst, ⟨c.todo, some (.plain ops l), putS c.fr o.dst (.val undef), setBl c.bl b n vs⟩)
     | false => none
    | none => none
def takeF (P : Program) (ops : Array Oper) (lst : List Nat) (pd : Pd) (c : Cf) (k : Nat) (o : Oper) : Option (Option Tmp × Cf) := match gd ops c.fr o with
 | none => none
 | some false => some (o.dst, ⟨c.todo, some (.drawn ops (k :: lst) ((k, none) :: pd)), putS c.fr o.dst (.val undef), c.bl⟩)
 | some true => match evOp P c.fr c.bl o with
  | some (.value s) => some (o.dst, ⟨c.todo, some (.drawn ops (k :: lst) ((k, none) :: pd)), putS c.fr o.dst s, c.bl⟩)
  | some (.alloc B kd) => match o.dst with
   | some d => some (some d, ⟨c.todo, some (.drawn ops (k :: lst) ((k, some c.bl.length) :: pd)), putS c.fr (some d) (mkS c.bl.length kd), c.bl ++ [B]⟩)
   | none => none
  | _ => none
def stpD (P : Program) (E : List TypeId) (ops : Array Oper) (lst : List Nat) (pd : Pd) (c : Cf) : Option (Option Tmp × Cf) := match readyL ops lst with
 | [] => match (List.range ops.size).all (memN · lst) with
  | true => some (none, ⟨c.todo, none, c.fr, c.bl⟩)
  | false => none
 | x :: l => match firstF ops c.fr (x :: l) with
  | some k => match ops[k]? with
   | none => none
   | some o => match okOwn ops c.fr o && okSee ops lst pd k o && okWr ops pd o with
    | true => takeF P ops lst pd c k o
    | false => none
  | none => match l with
   | [] => match ops[x]? with
    | none => none
    | some o => match okOwn ops c.fr o && okSee ops lst pd x o with
     | false => none
     | true => match gd ops c.fr o with
      | some true => match evOp P c.fr c.bl o with
       | some (.store b n vs) => match eB E c.bl b && apartB ops c.fr b (pdBehind pd o) with
        | true => some (o.dst, ⟨c.todo, some (.drawn ops (x :: lst) (pdBehind pd o)), putS c.fr o.dst (.val undef), setBl c.bl b n vs⟩)
        | false => none
       | _ => none
      | _ => none
   | _ => none
def stp (P : Program) (E : List TypeId) (c : Cf) : Option (Option Tmp × Cf) := match c.rg with
 | none => stpC c
 | some (.plain ops rest) => stpP P E ops c rest
 | some (.drawn ops lst pd) => stpD P E ops lst pd c
def adv (P : Program) (E : List TypeId) (t : Nat) : Nat → Cf → Cf
 | 0, c => c
 | n + 1, c => match stp P E c with
  | none => c
  | some (d, c') => match d with
   | none => adv P E t n c'
   | some d => match Nat.beq d t with
    | true => c'
    | false => adv P E t n c'

def Run (C : Cx) (G : World → Prop) (c : Cf) : Prop := Stable C.E G → match c.rg with
 | none => ∀ r a w, St C G c.fr c.bl r (NS c.bl []) (fun _ => False) a w → Goes C.P C.f C.R c.todo a w
 | some (.plain ops rest) => ∀ r a w, St C G c.fr c.bl r (NS c.bl []) (fun _ => False) a w → wpOps C.P ops (QK C.P C.f C.R c.todo) rest a w
 | some (.drawn ops lst pd) => Down ops → PInv C.P ops lst pd c.fr c.bl → ∀ S r a w L fuel, (∀ q ∈ S, q ∈ pd) → LOk ops lst S L → cnt L ≤ fuel → St C G c.fr c.bl r (NS c.bl S) (DS ops S) a w →
   wpAny C.P .any ops (QK C.P C.f C.R c.todo) fuel L a w

section
variable {C : Cx} {G : World → Prop}
theorem NS_nil {bl : List Bk} {b : Nat} : NS bl [] b ↔ bl.length ≤ b := ⟨fun h => h.elim (fun ⟨_, hq, _⟩ => by cases hq) id, .inr⟩
theorem St.drew {fr : List SV} {bl : List Bk} {r : Nat → Nat} {N D : Nat → Prop} {a : Act} {w : World} (h : St C G fr bl r N D a w) (hs : Stable C.E G) : St C G fr bl r N D a { w with drawn := w.drawn + 1 } :=
 ⟨h.fr, ⟨h.bl.is, h.bl.inj⟩, h.w0.drew, hs w _ (fun _ _ _ _ _ k => k) h.fact⟩
theorem stpC_ok {c c' : Cf} {d : Option Tmp} (hm : C.P.follows .mixedOrders = true) (h : stpC c = some (d, c')) (hrg : c.rg = none) (hr : Run C G c') : Run C G c := by
 intro hs
 rw [hrg]
 intro r a w hst
 unfold stpC at h
 split at h
 ·rename_i x k htodo
  rw [htodo]
  have go : ∀ {k' : List Item}, Run C G ⟨k', none, c.fr, c.bl⟩ → Goes C.P C.f C.R k' a w := fun h => h hs r a w hst
  split at h
  ·simp only [Option.some.injEq, Prod.mk.injEq] at h; obtain ⟨-, rfl⟩ := h
   exact Goes.step (fun cs => step_skip) (go hr)
  ·simp only [Option.some.injEq, Prod.mk.injEq] at h; obtain ⟨-, rfl⟩ := h
   exact Goes.step (fun cs => step_label) (go hr)
  ·simp only [Option.some.injEq, Prod.mk.injEq] at h; obtain ⟨-, rfl⟩ := h
   exact Goes.step (fun cs => step_seq) (go hr)
  ·rename_i y p q
   split at h
   ·rename_i t ht
    simp only [Option.some.injEq, Prod.mk.injEq] at h; obtain ⟨-, rfl⟩ := h
    have h1 := (opS_ok (x := y) hst.fr fun _ _ k => k).1
    rw [ht] at h1
    refine Goes.step (fun cs => step_cond (t := t) h1) ?_
    have := go hr
    cases t <;> exact this
   ·cases h
  ·simp only [Option.some.injEq, Prod.mk.injEq] at h; obtain ⟨-, rfl⟩ := h
   exact Goes.step (fun cs => step_block) (go hr)
  ·split at h
   ·rename_i k' hk'
    simp only [Option.some.injEq, Prod.mk.injEq] at h; obtain ⟨-, rfl⟩ := h
    exact Goes.step (fun cs => step_exit hk') (go hr)
   ·cases h
  ·rename_i id ops draw
   split at h
   ·simp only [Option.some.injEq, Prod.mk.injEq] at h; obtain ⟨-, rfl⟩ := h
    exact Goes.code (wp_region (hr hs r a w hst))
   ·split at h
    ·rename_i hdn
     simp only [Option.some.injEq, Prod.mk.injEq] at h; obtain ⟨-, rfl⟩ := h
     have hPI : PInv C.P ops [] [] c.fr c.bl := ⟨fun k hk => (by cases hk), fun p hp => (by cases hp), fun p hp => (by cases hp), fun p hp => (by cases hp), fun p hp => (by cases hp), fun p hp => (by cases hp)⟩
     refine Goes.code (wp_region_any hm (hr hs (downB_ok hdn) hPI [] r a _ _ _ (fun q hq => by cases hq) ⟨by simp, fun i hi => ?_⟩ ?_ ?_))
     ·simp [Array.getD_eq_getD_getElem?, hi]
     ·unfold cnt; simpa using List.countP_le_length (p := (! ·)) (l := (Array.replicate ops.size false).toList)
     ·have := hst.drew hs
      exact ⟨this.fr.mono (fun _ k => k) (fun _ k => k.elim), this.bl, this.w0, this.fact⟩
    ·cases h
  ·cases h
 ·rename_i id k htodo
  rw [htodo]
  simp only [Option.some.injEq, Prod.mk.injEq] at h; obtain ⟨-, rfl⟩ := h
  exact Goes.step (fun cs => step_inBlock) (hr hs r a w hst)
 ·cases h
theorem St.made {fr : List SV} {bl : List Bk} {r : Nat → Nat} {a : Act} {w : World} {B : Bk} {kd : Option Nat} {cs : Array Value} (h : St C G fr bl r (NS bl []) (fun _ => False) a w) (hs : Stable C.E G) (hcs : CellsOk r (NS bl []) B.cells cs) (d : Option Tmp) :
  St C G (putS fr d (mkS bl.length kd)) (bl ++ [B]) (fun b => if b = bl.length then w.heap.size else r b) (NS (bl ++ [B]) []) (fun _ => False) (a.put d (mkV w.heap.size kd)) (w.alloc (.cells cs B.t)) := by
 have hN : ∀ b, NS bl [] b ↔ (NS (bl ++ [B]) [] b ∨ b = bl.length) := fun b => by
  rw [NS_nil, NS_nil, List.length_append, List.length_singleton]; omega
 have hn0 : ¬ NS (bl ++ [B]) [] bl.length := by rw [NS_nil, List.length_append, List.length_singleton]; omega
 have hr : ∀ b, ¬ NS bl [] b → (fun b => if b = bl.length then w.heap.size else r b) b = r b := fun b hb => by
  have : b ≠ bl.length := fun e => hb ((hN b).2 (.inr e))
  simp [this]
 refine ⟨((h.fr.re hr).mono (fun b k => (hN b).2 (.inl k)) fun _ k => k).put d (mkS_ok (by simp) hn0), ?_, h.w0.alloc h.w0.size _, h.alloc hs _⟩
 refine BlOk.make (b0 := bl.length) (N := NS bl []) (cs := cs) ⟨fun b B' hb hn => ?_, fun b b' hb hb' hn hn' he => ?_⟩ (fun t => Nat.le_trans (C.base_le t) h.w0.size) (by simp) hN hn0 hcs
 ·have hlt : b < bl.length := by rw [NS_nil] at hn; omega
  rw [List.getElem?_append_left hlt] at hb
  exact h.bl.is b B' hb hn
 ·rw [NS_nil] at hn hn'
  exact h.bl.inj b b' (by omega) (by omega) (by rw [NS_nil]; exact hn) (by rw [NS_nil]; exact hn') he
theorem NS_setBl {bl : List Bk} {b n : Nat} {vs : List SV} {S : Pd} : NS (setBl bl b n vs) S = NS bl S := by
 unfold NS setBl
 split <;> simp
theorem eB_ok {E : List TypeId} {bl : List Bk} {b : Nat} {B : Bk} (h : eB E bl b = true) (hB : bl[b]? = some B) : B.t ∉ E := by
 simp only [eB, hB, Bool.not_eq_true'] at h
 exact fun k => by rw [memN_iff.2 k] at h; cases h
theorem stpP_ok {ops : Array Oper} {c c' : Cf} {d : Option Tmp} {rest : List Nat} (h : stpP C.P C.E ops c rest = some (d, c')) (hrg : c.rg = some (.plain ops rest)) (hr : Run C G c') : Run C G c := by
 intro hs
 rw [hrg]
 intro r a w hst
 have fls : ∀ l : List Nat, ∀ t ∈ l, ¬ (fun _ : Nat => False) t := fun _ _ _ k => k
 unfold stpP at h
 split at h
 ·simp only [Option.some.injEq, Prod.mk.injEq] at h; obtain ⟨-, rfl⟩ := h
  exact hr hs r a w hst
 ·rename_i i l
  rw [wpOps_cons]
  split at h
  ·rename_i ho
   simp only [Option.some.injEq, Prod.mk.injEq] at h; obtain ⟨-, rfl⟩ := h
   unfold wpOp; simp only [ho]
   exact hr hs r a w hst
  ·rename_i o ho
   split at h
   ·cases h
   ·rename_i hg
    simp only [Option.some.injEq, Prod.mk.injEq] at h; obtain ⟨-, rfl⟩ := h
    exact wpOp_no ho (gd_ok hg hst.fr (fls _)) (hr hs r _ w ⟨hst.fr.put _ ⟨rfl, trivial⟩, hst.bl, hst.w0, hst.fact⟩)
   ·rename_i hg
    have hw := gd_ok hg hst.fr (fls _)
    split at h
    ·rename_i s he
     simp only [Option.some.injEq, Prod.mk.injEq] at h; obtain ⟨-, rfl⟩ := h
     obtain ⟨u, hu, hrun⟩ := evOp_ok he hst.fr (fls _) hst.bl
     exact wpOp_val ho hw hrun (hr hs r _ w ⟨hst.fr.put _ hu, hst.bl, hst.w0, hst.fact⟩)
    ·rename_i B kd he
     simp only [Option.some.injEq, Prod.mk.injEq] at h; obtain ⟨-, rfl⟩ := h
     obtain ⟨cs, hcs, hrun⟩ := evOp_ok he hst.fr (fls _) hst.bl
     exact wpOp_val ho hw hrun (hr hs _ _ _ (hst.made hs hcs _))
    ·rename_i b n vs he
     split at h
     ·rename_i hE
      simp only [Option.some.injEq, Prod.mk.injEq] at h; obtain ⟨-, rfl⟩ := h
      obtain ⟨B, cs, us, hB, hnb, hle, hk, hcs, hus, hrun⟩ := evOp_ok he hst.fr (fls _) hst.bl
      refine wpOp_skip ho hw hrun (hr hs r _ _ ⟨?_, ?_, below_setRow' hst.w0 (C.base_of (eB_ok hE hB) ▸ (hst.bl.is b B hB hnb).1) _, hs w _ (Keep.setRow hk (eB_ok hE hB) _) hst.fact⟩)
      ·rw [NS_setBl]; exact hst.fr.put _ ⟨rfl, trivial⟩
      ·rw [NS_setBl]; exact hst.bl.store hB hnb hle hk hcs hus
     ·cases h
    ·cases h
end
theorem opS_congr {fr fr' : List SV} {x : Operand} (h : ∀ t, x = .tmp t → fr'[t]? = fr[t]?) : opS fr' x = opS fr x := by
 cases x with
 | tmp t => simp only [opS, h t rfl]
 | _ => rfl
theorem pureEv_congr {P : Program} {fr fr' : List SV} {o : Oper} (ht : ∀ t ∈ opTmps o, fr'[t]? = fr[t]?) : pureEv P fr' o = pureEv P fr o := by
 have hx : ∀ x, x ∈ o.op.operands → opS fr' x = opS fr x := fun x hm => opS_congr fun t e => ht t (mem_opTmps (e ▸ hm))
 have h1 : o.op.operands.all (fun x => (opS fr' x).isVal) = o.op.operands.all (fun x => (opS fr x).isVal) := by
  rw [Bool.eq_iff_iff, Array.all_eq_true_iff_forall_mem, Array.all_eq_true_iff_forall_mem]
  exact ⟨fun h x hm => by rw [← hx x hm]; exact h x hm, fun h x hm => by rw [hx x hm]; exact h x hm⟩
 unfold pureEv
 rw [h1]
 cases hs : noSel o.op with
 | false => rfl
 | true =>
  have h2 : execOp (fun x => (opS fr' x).v) o = execOp (fun x => (opS fr x).v) o :=
   execOp_congr o (fun cs b e => by rw [e] at hs; cases hs) fun x hm => by simp only [hx x hm]
  rw [h2]
theorem capsOf_congr {fr fr' : List SV} : ∀ {l : List Operand}, (∀ t, Operand.tmp t ∈ l → fr'[t]? = fr[t]?) → capsOf fr' l = capsOf fr l
 | [], _ => rfl
 | x :: l, h => by
  simp only [capsOf]
  rw [opS_congr fun t e => h t (by simp [e]), capsOf_congr fun t ht => h t (List.mem_cons_of_mem _ ht)]
theorem evOp_congr {P : Program} {fr fr' : List SV} {bl bl' : List Bk} {o : Oper} {e : Eff} (h : evOp P fr bl o = some e) (ht : ∀ t ∈ opTmps o, fr'[t]? = fr[t]?)
  (hb : ∀ (b : Nat) (B : Bk), evBlk fr o = some b → bl[b]? = some B → bl'[b]? = some B) : evOp P fr' bl' o = some e := by
 have hx : ∀ x, x ∈ o.op.operands → opS fr' x = opS fr x := fun x hm => opS_congr fun t e => ht t (mem_opTmps (e ▸ hm))
 have hp := pureEv_congr (P := P) ht
 rw [← h]
 unfold evOp at h ⊢
 cases ho : o.op <;> simp only [ho] at h ⊢ <;> try (rw [hp])
 case move x => rw [hx x (by simp [ho, Op.operands])]
 case assign x => rw [hx x (by simp [ho, Op.operands])]
 case nilCheck x => rw [hx x (by simp [ho, Op.operands])]
 case box T x => rw [hx x (by simp [ho, Op.operands])]
 case fieldAddr T x f => rw [hx x (by simp [ho, Op.operands])]
 case build T parts =>
  have hf : ∀ (l : List (Nat × Operand)) (cs : List Ce), (∀ p ∈ l, opS fr' p.2 = opS fr p.2) → fillC fr' cs l = fillC fr cs l := by
   intro l
   induction l with
   | nil => intro cs _; rfl
   | cons p l ih =>
    intro cs hl
    obtain ⟨i, x⟩ := p
    simp only [fillC]
    rw [hl (i, x) (by simp)]
    have ih' := fun cs => ih cs fun q hq => hl q (List.mem_cons_of_mem _ hq)
    simp only [ih']
  have hr : rowEv P fr' T parts.toList = rowEv P fr T parts.toList := by
   unfold rowEv
   have := fun cs => hf parts.toList cs fun p hp' => hx p.2 (by
    simp only [ho, Op.operands, List.mem_toArray, List.mem_map]
    exact ⟨p, hp', rfl⟩)
   simp only [this]
  rw [hr]
 case slice T x lo hi mx =>
  have hb' : ∀ (d : Nat) (y : Option Operand), (y = lo ∨ y = hi) → bndS fr' d y = bndS fr d y := fun d y hy => by
   cases y with
   | none => rfl
   | some y => simp only [bndS]; rw [hx y (by simp only [ho, Op.operands]; rcases hy with rfl | rfl <;> simp)]
  have hs : ∀ l c, sliceS P fr' T l c lo hi mx = sliceS P fr T l c lo hi mx := fun l c => by
   unfold sliceS
   simp only [hb' _ lo (.inl rfl), hb' _ hi (.inr rfl)]
  rw [hx x (by simp [ho, Op.operands])]
  simp only [hs]
 case buildSlice T len parts =>
  have hf : ∀ (l : List (Nat × Operand)) (sz : Nat) (cs : List SV), (∀ p ∈ l, opS fr' p.2 = opS fr p.2) → fillS fr' sz cs l = fillS fr sz cs l := by
   intro l
   induction l with
   | nil => intro sz cs _; rfl
   | cons p l ih =>
    intro sz cs hl
    obtain ⟨i, x⟩ := p
    simp only [fillS]
    rw [hl (i, x) (by simp)]
    have ih' := fun cs => ih sz cs fun q hq => hl q (List.mem_cons_of_mem _ hq)
    simp only [ih']
  have hr : rowS P fr' T len parts.toList = rowS P fr T len parts.toList := by
   unfold rowS
   have := fun sz cs => hf parts.toList sz cs fun p hp' => hx p.2 (by
    simp only [ho, Op.operands, List.mem_toArray, List.mem_map]
    exact ⟨p, hp', rfl⟩)
   simp only [this]
  rw [hr]
 case call c =>
  have hl : lenS P fr' c = lenS P fr c := by
   unfold lenS
   cases hc : c.args[0]? with
   | none => rfl
   | some x => simp only [hx x (by simp only [ho, Op.operands, Call.operands]; simp [Array.mem_of_getElem? hc])]
  rw [hl]
 case binOp op T x y yT => rw [hx x (by simp [ho, Op.operands]), hx y (by simp [ho, Op.operands])]
 case indexAddr T x i => rw [hx x (by simp [ho, Op.operands]), hx i (by simp [ho, Op.operands])]
 case load T x =>
  rw [hx x (by simp [ho, Op.operands])]
  cases hs : opS fr x with
  | ptr b n =>
   simp only [hs] at h ⊢
   cases hB : bl[b]? with
   | none => simp [hB] at h
   | some B => rw [hb b B (by simp [evBlk, ho, hs]) hB]
  | _ => rfl
 case store T x y =>
  rw [hx x (by simp [ho, Op.operands]), hx y (by simp [ho, Op.operands])]
  cases hs : opS fr x with
  | ptr b n =>
   simp only [hs] at h ⊢
   cases hB : bl[b]? with
   | none => simp [hB] at h
   | some B => rw [hb b B (by simp [evBlk, ho, hs]) hB]
  | _ => rfl
 case makeFunc f first caps =>
  cases f with
  | func f =>
   simp only
   rw [capsOf_congr fun t hm => ht t (mem_opTmps (by simp [ho, Op.operands]; right; simpa using hm))]
  | _ => first | rfl | (simp only; rw [hp]) | rw [hp]
theorem gd_congr {ops : Array Oper} {fr fr' : List SV} {o : Oper} (ht : ∀ t ∈ o.looksAt ops, fr'[t]? = fr[t]?) : gd ops fr' o = gd ops fr o := by
 unfold gd
 cases hg : o.guard with
 | none => rfl
 | some jw =>
  obtain ⟨j, want⟩ := jw
  simp only
  cases hj : (ops[j]?).bind (·.dst) with
  | none => rfl
  | some d => simp only; rw [ht d (by simp [Oper.looksAt, hg, hj])]
theorem putS_ne {fr : List SV} {d : Option Tmp} {s : SV} {t : Nat} (h : d ≠ some t) : (putS fr d s)[t]? = fr[t]? := by
 cases d with
 | none => rfl
 | some d => simp only [putS]; rw [List.getElem?_set_ne (fun e => h (by rw [e]))]
theorem putS_eq {fr : List SV} {d : Nat} {s : SV} (h : d < fr.length) : (putS fr (some d) s)[d]? = some s := by simp [putS, h]
theorem putS_length {fr : List SV} {d : Option Tmp} {s : SV} : (putS fr d s).length = fr.length := by cases d <;> simp [putS]

theorem FloatOk.on {P : Program} {ops : Array Oper} {lst lst' : List Nat} {pd pd' : Pd} {fr : List SV} {bl bl' : List Bk} {k k2 : Nat} {nb : Option Nat} {o o2 : Oper} {s : SV} (h : FloatOk P ops lst pd fr bl k nb o)
  (h2 : ops[k2]? = some o2) (hk : k ∈ lst) (hk2 : k2 ∉ lst) (hl : ∀ m ∈ lst, m ∈ lst') (hp : ∀ p ∈ pd', p ∈ pd ∨ p.1 = k2) (hbl : ∀ (b : Nat) (B : Bk), (evBlk fr o = some b ∨ nb = some b) → bl[b]? = some B → bl'[b]? = some B)
  (hw : k ∈ afterB o2 → ∀ d, o2.dst = some d → d ∉ o.looksAt ops) :
  FloatOk P ops lst' pd' (putS fr o2.dst s) bl' k nb o := by
 have hne : k2 ≠ k := fun e => hk2 (e ▸ hk)
 have hlook : ∀ t ∈ o.looksAt ops, o2.dst ≠ some t := fun t ht hd => by
  rcases h.see k2 o2 t h2 hne hd ht with h1 | h1 | h1
  ·exact hk2 (h.aft k2 h1)
  ·exact hk2 h1.1
  ·exact hw h1 t hd ht
 have hslot : ∀ t ∈ o.looksAt ops, (putS fr o2.dst s)[t]? = fr[t]? := fun t ht => putS_ne (hlook t ht)
 have hdst : ∀ d, o.dst = some d → (putS fr o2.dst s)[d]? = fr[d]? := fun d hd => putS_ne fun e => h.apart k2 o2 d h2 hne e hd
 have hev : ∀ e, evOp P fr bl o = some e → evOp P (putS fr o2.dst s) bl' o = some e := fun e he => evOp_congr he (fun t ht => hslot t (looks_sub ht)) fun b B hb hB => hbl b B (.inl hb) hB
 refine ⟨h.op, fun d hd => by rw [putS_length]; exact h.own d hd, fun m hm => hl m (h.aft m hm), fun m om d hom hmk hd hdl => ?_, h.apart, ?_⟩
 ·rcases h.see m om d hom hmk hd hdl with h1 | ⟨h1, h3⟩ | h1
  ·exact .inl h1
  ·refine .inr (.inl ⟨hl m h1, fun p hp' e => ?_⟩)
   rcases hp p hp' with h4 | h4
   ·exact h3 p h4 e
   ·exact hk2 (by rw [← h4, e]; exact h1)
  ·exact .inr (.inr h1)
 ·rw [gd_congr hslot]
  rcases h.ev with ⟨hg, hnb, hv⟩ | ⟨hg, hnb, s', he, hv⟩ | ⟨hg, B, kd, b, d, hnb, he, hd, hv, hB⟩
  ·exact .inl ⟨hg, hnb, fun d hd => by rw [hdst d hd]; exact hv d hd⟩
  ·exact .inr (.inl ⟨hg, hnb, s', hev _ he, fun d hd => by rw [hdst d hd]; exact hv d hd⟩)
  ·exact .inr (.inr ⟨hg, B, kd, b, d, hnb, hev _ he, hd, by rw [hdst d hd]; exact hv, hbl b B (.inr hnb) hB⟩)

section
variable {C : Cx} {G : World → Prop}
theorem takeF_ok {ops : Array Oper} {lst : List Nat} {pd : Pd} {c c' : Cf} {d : Option Tmp} {k : Nat} {o : Oper} (h : takeF C.P ops lst pd c k o = some (d, c')) (hrg : c.rg = some (.drawn ops lst pd)) (ho : ops[k]? = some o)
  (hk : k ∉ lst) (haft : ∀ m ∈ afterB o, m ∈ lst) (hown : okOwn ops c.fr o = true) (hsee : okSee ops lst pd k o = true) (hwr : okWr ops pd o = true) (hr : Run C G c') : Run C G c := by
 intro hs
 rw [hrg]
 intro hdn hI S r a w L fuel hS hL hc hst
 have own := okOwn_ok hown
 obtain ⟨see, apart⟩ := okSee_ok hsee
 have hlt : k < ops.size := (Array.getElem?_eq_some_iff.1 ho).1
 -- the invariant behind it
 have inv : ∀ (nb : Option Nat) (s : SV) (bl' : List Bk), (∀ (b : Nat) (B : Bk), c.bl[b]? = some B → bl'[b]? = some B) → (∀ b, nb = some b → c.bl.length ≤ b) →
   ((gd ops c.fr o = some false ∧ nb = none ∧ s = .val undef) ∨ (gd ops c.fr o = some true ∧ nb = none ∧ evOp C.P c.fr c.bl o = some (.value s)) ∨
    (gd ops c.fr o = some true ∧ ∃ B kd b d, nb = some b ∧ s = mkS b kd ∧ evOp C.P c.fr c.bl o = some (.alloc B kd) ∧ o.dst = some d ∧ bl'[b]? = some B)) →
   PInv C.P ops (k :: lst) ((k, nb) :: pd) (putS c.fr o.dst s) bl' := by
  intro nb s bl' hbl hnb hev
  have hslot : ∀ t ∈ o.looksAt ops, (putS c.fr o.dst s)[t]? = c.fr[t]? := fun t ht => putS_ne fun e => (own t e).1 ht
  have hev' : ∀ e, evOp C.P c.fr c.bl o = some e → evOp C.P (putS c.fr o.dst s) bl' o = some e := fun e he => evOp_congr he (fun t ht => hslot t (looks_sub ht)) fun b B _ hB => hbl b B hB
  have hnp : ∀ p ∈ pd, p.1 ≠ k := fun p hp e => hk (e ▸ hI.sub p hp)
  have hbp : ∀ p ∈ pd, ∀ b, p.2 = some b → b < c.bl.length := fun p hp b hb => by
   obtain ⟨o', hf⟩ := hI.fl p hp
   rcases hf.ev with ⟨_, h1, _⟩ | ⟨_, h1, _⟩ | ⟨_, B, _, b', d', h1, _, _, _, hB⟩
   ·rw [hb] at h1; cases h1
   ·rw [hb] at h1; cases h1
   ·rw [hb] at h1; obtain rfl : b = b' := by simpa using h1
    exact (List.getElem?_eq_some_iff.1 hB).1
  refine ⟨fun m hm => ?_, fun p hp => ?_, fun p hp => ?_, fun p hp q hq e => ?_, fun p hp q hq b hb hb' => ?_, fun p hp q hq op oq d hop hoq ha hd => ?_⟩
  ·rcases List.mem_cons.1 hm with rfl | hm
   ·exact hlt
   ·exact hI.lt m hm
  ·rcases List.mem_cons.1 hp with rfl | hp
   ·simp
   ·exact List.mem_cons_of_mem _ (hI.sub p hp)
  ·rcases List.mem_cons.1 hp with rfl | hp
   ·refine ⟨o, ho, fun d hd => by rw [putS_length]; exact own d hd, fun m hm => List.mem_cons_of_mem _ (haft m hm), fun m om d hom hmk hd hdl => ?_, apart, ?_⟩
    ·rcases see m om d hom hmk hd hdl with h1 | ⟨h1, h3⟩ | h1
     ·exact .inl h1
     ·refine .inr (.inl ⟨List.mem_cons_of_mem _ h1, fun p hp e => ?_⟩)
      rcases List.mem_cons.1 hp with rfl | hp
      ·exact hmk e.symm
      ·exact h3 p hp e
     ·exact .inr (.inr h1)
    ·rw [gd_congr hslot]
     rcases hev with ⟨hg, h1, rfl⟩ | ⟨hg, h1, he⟩ | ⟨hg, B, kd, b, d, h1, rfl, he, hd, hB⟩
     ·exact .inl ⟨hg, h1, fun d hd => by rw [hd]; exact putS_eq (own d hd).2⟩
     ·exact .inr (.inl ⟨hg, h1, s, hev' _ he, fun d hd => by rw [hd]; exact putS_eq (own d hd).2⟩)
     ·exact .inr (.inr ⟨hg, B, kd, b, d, h1, hev' _ he, hd, by rw [hd]; exact putS_eq (own d hd).2, hB⟩)
   ·obtain ⟨o', hf⟩ := hI.fl p hp
    exact ⟨o', hf.on ho (hI.sub p hp) hk (fun m hm => List.mem_cons_of_mem _ hm) (fun q hq => (List.mem_cons.1 hq).elim (fun e => .inr (by rw [e])) .inl) (fun b B _ hB => hbl b B hB) fun ha d hd => okWr_ok hwr p hp o' d hf.op ha hd⟩
  ·rcases List.mem_cons.1 hp with rfl | hp <;> rcases List.mem_cons.1 hq with rfl | hq
   ·rfl
   ·exact absurd e.symm (hnp q hq)
   ·exact absurd e (hnp p hp)
   ·exact hI.one p hp q hq e
  ·rcases List.mem_cons.1 hp with rfl | hp <;> rcases List.mem_cons.1 hq with rfl | hq
   ·rfl
   ·have h1 := hnb b hb; have h2 := hbp q hq b hb'; omega
   ·have h1 := hnb b hb'; have h2 := hbp p hp b hb; omega
   ·exact hI.blk p hp q hq b hb hb'
  ·rcases List.mem_cons.1 hp with rfl | hp <;> rcases List.mem_cons.1 hq with rfl | hq
   ·exact absurd (hdn k oq hoq k ha) (Nat.lt_irrefl _)
   ·obtain ⟨o', hf⟩ := hI.fl q hq
    have e := hf.op
    rw [hoq] at e
    obtain rfl : oq = o' := by simpa using e
    exact absurd (hf.aft k ha) hk
   ·have e := ho
    simp only at hoq
    rw [hoq] at e
    obtain rfl : oq = o := by simpa using e
    exact okWr_ok hwr p hp op d hop ha hd
   ·exact hI.wr p hp q hq op oq d hop hoq ha hd
 -- the same world, seen with the operation still to come
 have seen : ∀ (nb : Option Nat) (s : SV) (bl' : List Bk), (∀ b, NS bl' ((k, nb) :: S) b ↔ NS c.bl S b) → (∀ (b : Nat) (B : Bk), bl'[b]? = some B → ¬ NS c.bl S b → c.bl[b]? = some B) → (∀ b, b < bl'.length → ¬ NS c.bl S b → b < c.bl.length) →
   St C G (putS c.fr o.dst s) bl' r (NS bl' ((k, nb) :: S)) (DS ops ((k, nb) :: S)) a w := by
  intro nb s bl' hN hbl hbl2
  have eN : NS bl' ((k, nb) :: S) = NS c.bl S := funext fun b => propext (hN b)
  rw [eN]
  refine ⟨⟨by rw [putS_length]; exact hst.fr.size, fun t s' ht hD => ?_, hst.fr.nod⟩, ⟨fun b B hb hn => hst.bl.is b B (hbl b B hb hn) hn, fun b b' hb hb' hn hn' => hst.bl.inj b b' (hbl2 b hb hn) (hbl2 b' hb' hn') hn hn'⟩, hst.w0, hst.fact⟩
  have hne : o.dst ≠ some t := fun e => hD ⟨(k, nb), by simp, by simp [ho, e]⟩
  rw [putS_ne hne] at ht
  exact hst.fr.at_ t s' ht fun ⟨q, hq, hd⟩ => hD ⟨q, List.mem_cons_of_mem _ hq, hd⟩
 have hL' : ∀ nb : Option Nat, LOk ops (k :: lst) ((k, nb) :: S) L := fun nb => ⟨hL.1, fun i hi => by
  rw [hL.2 i hi]
  constructor
  ·rintro ⟨h1, h2⟩
   refine ⟨List.mem_cons_of_mem _ h1, fun p hp e => ?_⟩
   rcases List.mem_cons.1 hp with rfl | hp
   ·have e' : k = i := e
    exact hk (e' ▸ h1)
   ·exact h2 p hp e
  ·rintro ⟨h1, h2⟩
   have hne : k ≠ i := h2 (k, nb) (by simp)
   exact ⟨(List.mem_cons.1 h1).resolve_left (Ne.symm hne), fun p hp => h2 p (List.mem_cons_of_mem _ hp)⟩⟩
 have hS' : ∀ nb : Option Nat, ∀ q ∈ (k, nb) :: S, q ∈ (k, nb) :: pd := fun nb q hq => (List.mem_cons.1 hq).elim (fun e => by rw [e]; simp) fun h => List.mem_cons_of_mem _ (hS q h)
 have same : ∀ b, NS c.bl ((k, none) :: S) b ↔ NS c.bl S b := fun b => by
  constructor
  ·rintro (⟨q, hq, hb⟩ | hb)
   ·rcases List.mem_cons.1 hq with rfl | hq
    ·cases hb
    ·exact .inl ⟨q, hq, hb⟩
   ·exact .inr hb
  ·rintro (⟨q, hq, hb⟩ | hb)
   ·exact .inl ⟨q, List.mem_cons_of_mem _ hq, hb⟩
   ·exact .inr hb
 unfold takeF at h
 split at h
 ·cases h
 ·rename_i hg
  simp only [Option.some.injEq, Prod.mk.injEq] at h; obtain ⟨-, rfl⟩ := h
  exact hr hs hdn (inv none (.val undef) c.bl (fun _ _ h => h) (fun b hb => by cases hb) (.inl ⟨hg, rfl, rfl⟩)) _ r a w L fuel (hS' none) (hL' none) hc (seen none _ c.bl same (fun _ _ h _ => h) fun _ h _ => h)
 ·rename_i hg
  split at h
  ·rename_i s he
   simp only [Option.some.injEq, Prod.mk.injEq] at h; obtain ⟨-, rfl⟩ := h
   exact hr hs hdn (inv none s c.bl (fun _ _ h => h) (fun b hb => by cases hb) (.inr (.inl ⟨hg, rfl, he⟩))) _ r a w L fuel (hS' none) (hL' none) hc (seen none _ c.bl same (fun _ _ h _ => h) fun _ h _ => h)
  ·rename_i B kd he
   split at h
   ·rename_i d' hd
    simp only [Option.some.injEq, Prod.mk.injEq] at h; obtain ⟨-, rfl⟩ := h
    have e1 : ∀ b, NS (c.bl ++ [B]) ((k, some c.bl.length) :: S) b ↔ NS c.bl S b := fun b => by
     constructor
     ·rintro (⟨q, hq, hb⟩ | hb)
      ·rcases List.mem_cons.1 hq with rfl | hq
       ·right; have : c.bl.length = b := by simpa using hb
        omega
       ·exact .inl ⟨q, hq, hb⟩
      ·right; simp at hb; omega
     ·rintro (⟨q, hq, hb⟩ | hb)
      ·exact .inl ⟨q, List.mem_cons_of_mem _ hq, hb⟩
      ·by_cases e : b = c.bl.length
       ·exact .inl ⟨(k, some c.bl.length), by simp, by rw [e]⟩
       ·right; simp; omega
    have e2 : ∀ (b : Nat), ¬ NS c.bl S b → b < c.bl.length := fun b hn => by
     rcases Nat.lt_or_ge b c.bl.length with h | h
     ·exact h
     ·exact absurd (.inr h) hn
    have e3 := inv (some c.bl.length) (mkS c.bl.length kd) (c.bl ++ [B]) (fun b B' h => by rw [List.getElem?_append_left (List.getElem?_eq_some_iff.1 h).1]; exact h) (fun b hb => by simp at hb; omega)
     (.inr (.inr ⟨hg, B, kd, c.bl.length, d', rfl, rfl, he, hd, by simp⟩))
    have e4 := seen (some c.bl.length) (mkS c.bl.length kd) (c.bl ++ [B]) e1 (fun b B' h hn => by rw [List.getElem?_append_left (e2 b hn)] at h; exact h) fun b _ hn => e2 b hn
    rw [hd] at e3 e4
    exact hr hs hdn e3 _ r a w L fuel (hS' _) (hL' _) hc e4
   ·cases h
  ·cases h
end
section
variable {C : Cx} {G : World → Prop}
theorem only_ready {ops : Array Oper} {lst : List Nat} {pd : Pd} {S : Pd} {L : Array Bool} {x i : Nat} (hrl : readyL ops lst = [x]) (hL : LOk ops lst S L) (hi : i ∈ Region.ready .any ops L) (hl : i ∉ lst) :
  i = x ∧ ∃ o, ops[x]? = some o ∧ x ∉ lst ∧ (∀ m ∈ afterB o, m ∈ lst) ∧ ∀ p ∈ S, p.1 ∉ afterB o := by
 obtain ⟨h0, o, ho, hall⟩ := mem_ready.1 hi
 have key : ∀ m ∈ afterB o, m < ops.size → m ∈ lst ∧ ∀ p ∈ S, p.1 ≠ m := fun m hm hlt => by
  obtain ⟨e, he, hb, rfl⟩ := mem_afterB.1 hm
  have h1 := hall e he hb
  rw [← getD_tf (by rw [hL.1]; exact hlt)] at h1
  exact (hL.2 e.on hlt).1 h1
 have hmlt : ∀ m ∈ afterB o, m < ops.size := fun m hm => by
  obtain ⟨e, he, hb, rfl⟩ := mem_afterB.1 hm
  have h1 := hall e he hb
  rcases Nat.lt_or_ge e.on L.size with h' | h'
  ·rw [← hL.1]; exact h'
  ·simp [Array.getD_eq_getD_getElem?, Array.getElem?_eq_none h'] at h1
 have hmem : i ∈ readyL ops lst := mem_readyL.2 ⟨o, ho, hl, fun m hm => (key m hm (hmlt m hm)).1⟩
 rw [hrl] at hmem
 obtain rfl : i = x := by simpa using hmem
 exact ⟨rfl, o, ho, hl, fun m hm => (key m hm (hmlt m hm)).1, fun p hp hm => (key p.1 hm (hmlt p.1 hm)).2 p hp rfl⟩
theorem LOk.next {ops : Array Oper} {lst : List Nat} {S : Pd} {L : Array Bool} {x : Nat} (hL : LOk ops lst S L) (hx : x ∉ lst) (hs : ∀ p ∈ S, p.1 ∈ lst) : LOk ops (x :: lst) S (L.setIfInBounds x true) :=
 ⟨by simpa using hL.1, fun i hi => by
  by_cases e : x = i
  ·subst e
   have : (L.setIfInBounds x true).getD x true = true := by simp [Array.getD_eq_getD_getElem?, hL.1, hi]
   rw [this]
   exact ⟨fun _ => ⟨by simp, fun p hp e => hx (e ▸ hs p hp)⟩, fun _ => rfl⟩
  ·rw [getD_set_ne true e, hL.2 i hi]
   exact ⟨fun ⟨h1, h2⟩ => ⟨List.mem_cons_of_mem _ h1, h2⟩, fun ⟨h1, h2⟩ => ⟨(List.mem_cons.1 h1).resolve_left (Ne.symm e), h2⟩⟩⟩
theorem mem_pdBehind {pd : Pd} {o : Oper} {p : Nat × Option Nat} : p ∈ pdBehind pd o ↔ p ∈ pd ∧ p.1 ∉ afterB o := by
 unfold pdBehind
 rw [List.mem_filter]
 constructor
 ·rintro ⟨h1, h2⟩
  refine ⟨h1, fun h => ?_⟩
  rw [memN_iff.2 h] at h2; cases h2
 ·rintro ⟨h1, h2⟩
  refine ⟨h1, ?_⟩
  cases hb : memN p.1 (afterB o) with
  | false => rfl
  | true => exact absurd (memN_iff.1 hb) h2
theorem PInv.next {P : Program} {ops : Array Oper} {lst : List Nat} {pd : Pd} {fr : List SV} {bl bl' : List Bk} {x : Nat} {o : Oper} {s : SV} (hI : PInv P ops lst pd fr bl) (ho : ops[x]? = some o) (hx : x ∉ lst)
  (hbl : ∀ p ∈ pdBehind pd o, ∀ o', ops[p.1]? = some o' → ∀ (b : Nat) (B : Bk), (evBlk fr o' = some b ∨ p.2 = some b) → bl[b]? = some B → bl'[b]? = some B) :
  PInv P ops (x :: lst) (pdBehind pd o) (putS fr o.dst s) bl' := by
 refine ⟨fun m hm => ?_, fun p hp => List.mem_cons_of_mem _ (hI.sub p (mem_pdBehind.1 hp).1), fun p hp => ?_, fun p hp q hq e => hI.one p (mem_pdBehind.1 hp).1 q (mem_pdBehind.1 hq).1 e,
  fun p hp q hq b hb hb' => hI.blk p (mem_pdBehind.1 hp).1 q (mem_pdBehind.1 hq).1 b hb hb',
  fun p hp q hq => hI.wr p (mem_pdBehind.1 hp).1 q (mem_pdBehind.1 hq).1⟩
 ·rcases List.mem_cons.1 hm with rfl | hm
  ·exact (Array.getElem?_eq_some_iff.1 ho).1
  ·exact hI.lt m hm
 ·obtain ⟨o', hf⟩ := hI.fl p (mem_pdBehind.1 hp).1
  exact ⟨o', hf.on ho (hI.sub p (mem_pdBehind.1 hp).1) hx (fun m hm => List.mem_cons_of_mem _ hm) (fun q hq => .inl (mem_pdBehind.1 hq).1) (hbl p hp o' hf.op) fun ha => absurd ha (mem_pdBehind.1 hp).2⟩
theorem setBl_ne {bl : List Bk} {b n c : Nat} {vs : List SV} (h : c ≠ b) : (setBl bl b n vs)[c]? = bl[c]? := by
 unfold setBl
 split
 ·rw [List.getElem?_set_ne (Ne.symm h)]
 ·rfl
theorem stpD_ok {ops : Array Oper} {lst : List Nat} {pd : Pd} {c c' : Cf} {d : Option Tmp} (h : stpD C.P C.E ops lst pd c = some (d, c')) (hrg : c.rg = some (.drawn ops lst pd)) (hr : Run C G c') : Run C G c := by
 unfold stpD at h
 split at h
 ·rename_i hrl
  split at h
  ·rename_i hall
   simp only [Option.some.injEq, Prod.mk.injEq] at h; obtain ⟨-, rfl⟩ := h
   intro hs
   rw [hrg]
   intro hdn hI S r a w L fuel hS hL hc hst
   refine drain hdn hI hs (fun S r a w L fuel i hS hL hc hst hi hl => ?_) (fun _ r a w hst => ?_) fuel S r a w L hS hL hc hst
   ·obtain ⟨-, o, ho, -⟩ := mem_ready.1 hi
    exact absurd (memN_iff.1 (List.all_eq_true.1 hall i (List.mem_range.2 (Array.getElem?_eq_some_iff.1 ho).1))) hl
   ·exact hr hs r a w ⟨hst.fr.mono (fun _ k => k) fun t ⟨q, hq, _⟩ => (by cases hq), hst.bl, hst.w0, hst.fact⟩
  ·cases h
 ·rename_i x l hrl
  split at h
  ·rename_i k hk
   split at h
   ·cases h
   ·rename_i o ho
    split at h
    ·rename_i hok
     simp only [Bool.and_eq_true] at hok
     obtain ⟨o', ho', h1, h2⟩ := mem_readyL.1 (hrl ▸ firstF_mem hk : k ∈ readyL ops lst)
     rw [ho] at ho'
     obtain rfl : o = o' := by simpa using ho'
     exact takeF_ok h hrg ho h1 h2 hok.1.1 hok.1.2 hok.2 hr
    ·cases h
  ·split at h
   ·split at h
    ·cases h
    ·rename_i o ho
     split at h
     ·cases h
     ·rename_i hok
      simp only [Bool.and_eq_true] at hok
      split at h
      ·rename_i hg
       split at h
       ·rename_i b n vs he
        split at h
        ·rename_i hE
         simp only [Bool.and_eq_true] at hE
         simp only [Option.some.injEq, Prod.mk.injEq] at h; obtain ⟨-, rfl⟩ := h
         intro hs
         rw [hrg]
         intro hdn hI S r a w L fuel hS hL hc hst
         have own := okOwn_ok hok.1
         obtain ⟨see, apart⟩ := okSee_ok hok.2
         refine drain hdn hI hs (fun S r a w L fuel i hS hL hc hst hi hl => ?_) (fun hall r a w hst => ?_) fuel S r a w L hS hL hc hst
         ·obtain ⟨rfl, o', ho', hx, haft, hSa⟩ := only_ready (pd := pd) hrl hL hi hl
          rw [ho] at ho'
          obtain rfl : o = o' := by simpa using ho'
          have hno := seen_ok ho hS hL hi (fun d hd => (own d hd).1) see (wt_chain hI hS hx)
          obtain ⟨B, cs, us, hB, hnb, hle, hk, hcs, hus, hrun⟩ := evOp_ok he hst.fr (fun t ht => hno t (looks_sub ht)) hst.bl
          have h0 := (mem_ready.1 hi).1
          refine wpOp_skip ho (gd_ok hg hst.fr hno) hrun (hr hs hdn (hI.next ho hx fun p hp o' ho' c B' hcb hB' => ?_) S r _ _ _ fuel (fun q hq => mem_pdBehind.2 ⟨hS q hq, hSa q hq⟩) (hL.next hx fun p hp => hI.sub p (hS p hp))
           (by have := cnt_set h0; omega) ⟨?_, ?_, below_setRow' hst.w0 (C.base_of (eB_ok hE.1 hB) ▸ (hst.bl.is b B hB hnb).1) _, hs w _ (Keep.setRow hk (eB_ok hE.1 hB) _) hst.fact⟩)
          ·have hap := List.all_eq_true.1 hE.2 p hp
           simp only [Bool.and_eq_true] at hap
           have hne : c ≠ b := by
            rintro rfl
            rcases hcb with hcb | hcb
            ·have := hap.2
             rw [ho'] at this
             simp [hcb, Nat.beq_refl] at this
            ·have := hap.1
             simp [hcb, Nat.beq_refl] at this
           rw [setBl_ne hne]; exact hB'
          ·rw [NS_setBl]; exact hst.fr.put _ ⟨rfl, trivial⟩
          ·rw [NS_setBl]; exact hst.bl.store hB hnb hle hk hcs hus
         ·have hx : x ∈ readyL ops lst := by rw [hrl]; simp
          obtain ⟨o', ho', h1, -⟩ := mem_readyL.1 hx
          exact absurd (hall x (Array.getElem?_eq_some_iff.1 ho').1) h1
        ·cases h
       ·cases h
      ·cases h
   ·cases h
theorem stp_ok {c c' : Cf} {d : Option Tmp} (hm : C.P.follows .mixedOrders = true) (h : stp C.P C.E c = some (d, c')) (hr : Run C G c') : Run C G c := by
 unfold stp at h
 split at h
 ·rename_i hrg; exact stpC_ok hm h hrg hr
 ·rename_i ops rest hrg; exact stpP_ok h hrg hr
 ·rename_i ops lst pd hrg; exact stpD_ok h hrg hr
theorem run_adv (hm : C.P.follows .mixedOrders = true) {t : Nat} : ∀ {n : Nat} {c : Cf}, Run C G (adv C.P C.E t n c) → Run C G c
 | 0, c, h => h
 | n + 1, c, h => by
  simp only [adv] at h
  split at h
  ·exact h
  ·rename_i d c' hc
   split at h
   ·exact stp_ok hm hc (run_adv hm h)
   ·split at h
    ·exact stp_ok hm hc h
    ·exact stp_ok hm hc (run_adv hm h)
def setS (c : Cf) (t : Nat) (v : Value) : Cf := ⟨c.todo, c.rg, c.fr.set t (.val v), c.bl⟩
theorem run_pin {c : Cf} {t : Nat} {v v' : Value} (h : c.fr[t]? = some (.val v)) (hv : v = v') (hr : Run C G (setS c t v')) : Run C G c := by
 subst hv
 have : setS c t v = c := by
  unfold setS
  have e : c.fr.set t (.val v) = c.fr := by
   apply List.ext_getElem?
   intro i
   rw [List.getElem?_set]
   split
   ·rename_i hi; subst hi; rw [h, if_pos (List.getElem?_eq_some_iff.1 h).1]
   ·rfl
  rw [e]
 rwa [this] at hr
def opAt (c : Cf) : Option Oper := match c.rg with
 | some (.plain ops (i :: _)) => match ops[i]? with
  | some o => match gd ops c.fr o with
   | some true => some o
   | _ => none
  | none => none
 | some (.drawn ops lst pd) => match readyL ops lst with
  | [x] => match ops[x]? with
   | some o => match okOwn ops c.fr o && okSee ops lst pd x o with
    | true => match gd ops c.fr o with
     | some true => some o
     | _ => none
    | false => none
   | none => none
  | _ => none
 | _ => none
/-! calls -/
def capS : Cp → SV
 | .ptr b o => .ptr b o
 | .val v => .val v
def callOf (fr : List SV) (o : Oper) : Option (FuncId × List SV) := match o.op with
 | .call c => match c.callee with
  | .value x => match opS fr x with
   | .clo f caps => some (f, c.args.toList.map (opS fr) ++ caps.map capS)
   | .val (.func (.func f) first caps) => match first.toList with
    | [] => some (f, c.args.toList.map (opS fr) ++ caps.toList.map .val)
    | _ => none
   | _ => none
  | _ => none
 | _ => none
def callAt (c : Cf) : Option (FuncId × List SV) := match c.rg with
 | some (.plain ops (i :: _)) => match ops[i]? with
  | some o => match gd ops c.fr o with
   | some true => callOf c.fr o
   | _ => none
  | none => none
 | some (.drawn ops lst pd) => match readyL ops lst with
  | [x] => match ops[x]? with
   | some o => match okOwn ops c.fr o && okSee ops lst pd x o with
    | true => match gd ops c.fr o with
     | some true => callOf c.fr o
     | _ => none
    | false => none
   | none => none
  | _ => none
 | _ => none
def resRg : Option Rg → Option Rg
 | some (.plain ops (_ :: l)) => some (.plain ops l)
 | some (.drawn ops lst pd) => match readyL ops lst with
  | [x] => match ops[x]? with
   | some o => some (.drawn ops (x :: lst) (pdBehind pd o))
   | none => none
  | _ => none
 | _ => none
def resDst : Option Rg → Option Tmp
 | some (.plain ops (i :: _)) => dstOf ops i
 | some (.drawn ops lst _) => match readyL ops lst with
  | [x] => dstOf ops x
  | _ => none
 | _ => none
def resume (c : Cf) (v : SV) : Cf := ⟨c.todo, resRg c.rg, putS c.fr (resDst c.rg) v, c.bl⟩
def Enters (P : Program) (f : FuncId) : Prop := ∀ (args : Array Value) (w : World), (callFunc f args).run P w = .ok (.enter f args) w
theorem enters_of {P : Program} {f : FuncId} {fn : Func} {c : Code} (hf : P.funcs[f]? = some fn) (hname : (fn.name == "runtime.NumGoroutine") = false) (hb : fn.body = some c) : Enters P f := fun args w => by
 have h1 : fn.name ≠ "runtime.NumGoroutine" := by simpa using hname
 simp [callFunc, hf, h1, hb]
def Args (r : Nat → Nat) (N : Nat → Prop) : List SV → List Value → Prop
 | [], [] => True
 | s :: ss, u :: us => s.Ok r N u ∧ Args r N ss us
 | _, _ => False
theorem args_map {r : Nat → Nat} {N : Nat → Prop} {fr : List SV} {D : Nat → Prop} {a : Act} (hfr : FrOk r N fr D a) : ∀ {l : List Operand}, (∀ t, Operand.tmp t ∈ l → ¬ D t) → Args r N (l.map (opS fr)) (l.map a.eval)
 | [], _ => trivial
 | x :: l, h => ⟨opS_ok hfr fun t e => h t (by simp [e]), args_map hfr fun t ht => h t (List.mem_cons_of_mem _ ht)⟩
theorem args_app {r : Nat → Nat} {N : Nat → Prop} : ∀ {a a' : List SV} {b b' : List Value}, Args r N a b → Args r N a' b' → Args r N (a ++ a') (b ++ b')
 | [], _, [], _, _, h => h
 | _ :: _, _, _ :: _, _, h, h' => ⟨h.1, args_app h.2 h'⟩
 | [], _, _ :: _, _, h, _ => h.elim
 | _ :: _, _, [], _, h, _ => h.elim
theorem args_caps {r : Nat → Nat} {N : Nat → Prop} : ∀ {cs : List Cp}, (∀ c ∈ cs, c.Fresh N) → Args r N (cs.map capS) (cs.map (Cp.at r))
 | [], _ => trivial
 | c :: cs, h => ⟨by
   have := h c (by simp)
   cases c with
   | ptr b o => exact ⟨rfl, this⟩
   | val v => exact ⟨rfl, trivial⟩, args_caps fun c hc => h c (List.mem_cons_of_mem _ hc)⟩
theorem callOf_ok {P : Program} {r : Nat → Nat} {N : Nat → Prop} {fr : List SV} {D : Nat → Prop} {a : Act} {o : Oper} {f : FuncId} {ss : List SV} {w : World} (h : callOf fr o = some (f, ss)) (he : Enters P f) (hfr : FrOk r N fr D a)
  (hop : ∀ t ∈ opTmps o, ¬ D t) : ∃ us : List Value, Args r N ss us ∧ (execOp a.eval o).run P w = .ok (.enter f us.toArray) w := by
 unfold callOf at h
 split at h
 ·rename_i c ho
  split at h
  ·rename_i x hx
   split at h
   ·rename_i f' caps hs
    simp only [Option.some.injEq, Prod.mk.injEq] at h; obtain ⟨rfl, rfl⟩ := h
    have h1 := opS_ok (x := x) hfr fun t e => hop t (mem_opTmps (by simp [ho, Op.operands, Call.operands, hx, e]))
    rw [hs] at h1
    have h2 : a.eval x = _ := h1.1
    refine ⟨c.args.toList.map a.eval ++ caps.map (Cp.at r), args_app (args_map hfr fun t ht => hop t (mem_opTmps (by simp [ho, Op.operands, Call.operands]; right; simpa using ht))) (args_caps h1.2), ?_⟩
    unfold execOp; rw [ho]
    have e3 : (#[] : Array Value) ++ Array.map a.eval c.args ++ (List.map (Cp.at r) caps).toArray = (List.map a.eval c.args.toList ++ List.map (Cp.at r) caps).toArray := by
     apply Array.ext'; simp
    simp only [resolve, hx, h2, Deferred.ofValue, invoke, Sem.run_bind, Sem.run_pure, Result.andThen_ok, e3]
    exact he _ w
   ·rename_i f' first caps hs
    split at h
    ·rename_i hfirst
     simp only [Option.some.injEq, Prod.mk.injEq] at h; obtain ⟨rfl, rfl⟩ := h
     have h1 := opS_ok (x := x) hfr fun t e => hop t (mem_opTmps (by simp [ho, Op.operands, Call.operands, hx, e]))
     rw [hs] at h1
     have h2 : a.eval x = _ := h1.1
     have hf0 : first = #[] := by cases first; simp_all
     have hcap : ∀ l : List Value, Args r N (l.map .val) l := fun l => by
      induction l with
      | nil => trivial
      | cons v l ih => exact ⟨⟨rfl, trivial⟩, ih⟩
     refine ⟨c.args.toList.map a.eval ++ caps.toList, args_app (args_map hfr fun t ht => hop t (mem_opTmps (by simp [ho, Op.operands, Call.operands]; right; simpa using ht))) (hcap _), ?_⟩
     unfold execOp; rw [ho]
     have e3 : (#[] : Array Value) ++ Array.map a.eval c.args ++ caps = (List.map a.eval c.args.toList ++ caps.toList).toArray := by
      apply Array.ext'; simp
     simp only [resolve, hx, h2, hf0, Deferred.ofValue, invoke, Sem.run_bind, Sem.run_pure, Result.andThen_ok, e3]
     exact he _ w
    ·cases h
   ·cases h
  ·cases h
 ·cases h
theorem wpOp_call {P : Program} {ops : Array Oper} {Q : Exit → Act → World → Prop} {i : Nat} {o : Oper} {K : Act → World → Prop} {a : Act} {w : World} {f : FuncId} {us : Array Value} {R : Ending → World → Prop} (ho : ops[i]? = some o)
  (hw : Region.wanted o (yielded ops a.tmps) = true) (hr : (execOp a.eval o).run P w = .ok (.enter f us) w) (hc : Calls P f us w R) (h : ∀ e w', R e w' → ∃ u, e = .returned u ∧ K (a.put o.dst u) w') : wpOp P ops Q i K a w := by
 unfold wpOp; simp only [ho, hw, if_true]; left; unfold Oper.wp; rw [hr]
 refine hc.mono fun e w' he => ?_
 obtain ⟨u, rfl, hk⟩ := h e w' he
 exact hk
theorem run_call {c : Cf} {f : FuncId} {ss : List SV} (hc : callAt c = some (f, ss)) (he : Enters C.P f) {X : Type} (val : X → SV) (fact : X → World → Prop) (hfs : ∀ x, Stable C.E (fact x)) (hval : ∀ x (N : Nat → Prop), (val x).Fresh N)
  (h : ∀ (r : Nat → Nat) (N : Nat → Prop) (w : World) (us : List Value), Args r N ss us → BlOk r N c.bl C.base w → G w → Calls C.P f us.toArray w fun e w' => ∃ x u, e = .returned u ∧ (val x).Is r u ∧ Below w.heap.size w w' ∧ fact x w')
  (hk : ∀ x, Run C (fun w => G w ∧ fact x w) (resume c (val x))) : Run C G c := by
 intro hs
 have hs' : ∀ x, Stable C.E (fun w => G w ∧ fact x w) := fun x w w' hK h => ⟨hs w w' hK h.1, hfs x w w' hK h.2⟩
 unfold callAt at hc
 split at hc
 ·rename_i ops i l hrg
  rw [hrg]
  intro r a w hst
  rw [wpOps_cons]
  split at hc
  ·rename_i o ho
   split at hc
   ·rename_i hg
    obtain ⟨us, hargs, hrun⟩ := callOf_ok (w := w) hc he hst.fr fun _ _ k => k
    refine wpOp_call ho (gd_ok hg hst.fr fun _ _ k => k) hrun (h r _ w us hargs hst.bl hst.fact) fun e w' ⟨x, u, he, hu, hb, hf⟩ => ⟨u, he, ?_⟩
    have h1 := hk x (hs' x)
    have e1 : dstOf ops i = o.dst := by simp [dstOf, ho]
    simp only [resume, hrg, resRg, resDst, e1] at h1
    exact h1 r _ w' ⟨hst.fr.put _ ⟨hu, hval x _⟩, hst.bl.below hb, hst.w0.trans (hb.mono hst.w0.size), hs w w' (Keep.below hb) hst.fact, hf⟩
   ·cases hc
  ·cases hc
 ·rename_i ops lst pd hrg
  split at hc
  ·rename_i x hrl
   split at hc
   ·rename_i o ho
    split at hc
    ·rename_i hok
     simp only [Bool.and_eq_true] at hok
     split at hc
     ·rename_i hg
      rw [hrg]
      intro hdn hI S r a w L fuel hS hL hcn hst
      have own := okOwn_ok hok.1
      obtain ⟨see, apart⟩ := okSee_ok hok.2
      refine drain hdn hI hs (fun S r a w L fuel i hS hL hcn hst hi hl => ?_) (fun hall r a w hst => ?_) fuel S r a w L hS hL hcn hst
      ·obtain ⟨rfl, o', ho', hx, haft, hSa⟩ := only_ready (pd := pd) hrl hL hi hl
       rw [ho] at ho'
       obtain rfl : o = o' := by simpa using ho'
       have hno := seen_ok ho hS hL hi (fun d hd => (own d hd).1) see (wt_chain hI hS hx)
       obtain ⟨us, hargs, hrun⟩ := callOf_ok (w := w) hc he hst.fr fun t ht => hno t (looks_sub ht)
       have h0 := (mem_ready.1 hi).1
       refine wpOp_call ho (gd_ok hg hst.fr hno) hrun (h r _ w us hargs hst.bl hst.fact) fun e w' ⟨x, u, he, hu, hb, hf⟩ => ⟨u, he, ?_⟩
       have h1 := hk x (hs' x)
       have e1 : dstOf ops i = o.dst := by simp [dstOf, ho]
       simp only [resume, hrg, hrl, ho, resRg, resDst, e1] at h1
       exact h1 hdn (hI.next ho hx fun p hp o' ho' c B' hcb hB' => hB') S r _ _ _ fuel (fun q hq => mem_pdBehind.2 ⟨hS q hq, hSa q hq⟩) (hL.next hx fun p hp => hI.sub p (hS p hp)) (by have := cnt_set h0; omega)
        ⟨hst.fr.put _ ⟨hu, hval x _⟩, hst.bl.below hb, hst.w0.trans (hb.mono hst.w0.size), hs w w' (Keep.below hb) hst.fact, hf⟩
      ·have hx : x ∈ readyL ops lst := by rw [hrl]; simp
       obtain ⟨o', ho', h1, -⟩ := mem_readyL.1 hx
       exact absurd (hall x (Array.getElem?_eq_some_iff.1 ho').1) h1
     ·cases hc
    ·cases hc
   ·cases hc
  ·cases hc
 ·cases hc
end
section
variable {C : Cx} {G : World → Prop}
def resumeB (c : Cf) (B : Bk) (n : Nat) : Cf := ⟨c.todo, resRg c.rg, putS c.fr (resDst c.rg) (.sl c.bl.length 0 n n), c.bl ++ [B]⟩
def resumeG (c : Cf) (B : Bk) (n m : Nat) : Cf := ⟨c.todo, resRg c.rg, putS c.fr (resDst c.rg) (.sl c.bl.length 0 n m), c.bl ++ [B]⟩
def resumeR (c : Cf) (b o : Nat) (vs : List SV) (n m : Nat) : Cf := ⟨c.todo, match c.rg with
 | some (.plain ops (_ :: l)) => some (.plain ops l)
 | rg => resRg rg, putS c.fr (resDst c.rg) (.sl b 0 n m), setBl c.bl b o vs⟩
def aloneB (c : Cf) (b : Nat) : Bool := match c.rg with
 | some (.drawn ops lst pd) => match readyL ops lst with
  | [x] => match ops[x]? with
   | some o => apartB ops c.fr b (pdBehind pd o)
   | none => false
  | _ => false
 | _ => true
theorem grown_st {c : Cf} {B : Bk} (hs : Stable C.E G) (n m : Nat) (S : Pd) (D : Nat → Prop) (d : Option Tmp) (r : Nat → Nat) (a : Act) (w w' : World) (k : Nat) (cs : Array Value) (hS : ∀ p ∈ S, ∀ b, p.2 = some b → b < c.bl.length) (hst : St C G c.fr c.bl r (NS c.bl S) D a w) (hk : w.heap.size ≤ k)
  (hcell : w'.heap[k]? = some (.cells cs B.t (0, 0))) (hcs : CellsOk r (NS c.bl S) B.cells cs) (hb : Below w.heap.size w w') :
  St C G (putS c.fr d (.sl c.bl.length 0 n m)) (c.bl ++ [B]) (fun b => if b = c.bl.length then k else r b) (NS (c.bl ++ [B]) S) D (a.put d (.slice (some ⟨k, 0, none⟩) n m)) w' := by
 have eN : ∀ b, NS c.bl S b ↔ (NS (c.bl ++ [B]) S b ∨ b = c.bl.length) := fun b => by
  constructor
  ·rintro (h | h)
   ·exact .inl (.inl h)
   ·by_cases e : b = c.bl.length
    ·exact .inr e
    ·left; right; simp; omega
  ·rintro ((h | h) | h)
   ·exact .inl h
   ·right; simp at h; omega
   ·right; omega
 have n0 : ¬ NS (c.bl ++ [B]) S c.bl.length := by
  rintro (⟨p, hp, h⟩ | h)
  ·have := hS p hp _ h; omega
  ·simp at h; omega
 have lt : ∀ b, ¬ NS c.bl S b → b < c.bl.length := fun b hn => by
  rcases Nat.lt_or_ge b c.bl.length with h | h
  ·exact h
  ·exact absurd (.inr h) hn
 have hr : ∀ b, ¬ NS c.bl S b → (fun b => if b = c.bl.length then k else r b) b = r b := fun b hb => by
  have : b ≠ c.bl.length := fun e => hb ((eN b).2 (.inr e))
  simp [this]
 exact ⟨((hst.fr.re hr).mono (fun b h => (eN b).2 (.inl h)) fun _ h => h).put d ⟨by simp [SV.Is], n0⟩,
  hst.bl.grow hb (fun t => Nat.le_trans (C.base_le t) hst.w0.size) (by simp) (fun b B' h hn => by rwa [List.getElem?_append_left (lt b hn)] at h) (fun b _ hn => lt b hn) eN n0 hk hcell hcs, hst.w0.trans (hb.mono hst.w0.size), hs w w' (Keep.below hb) hst.fact⟩
theorem pd_lt {ops : Array Oper} {lst : List Nat} {pd S : Pd} {fr : List SV} {bl : List Bk} {P : Program} (hI : PInv P ops lst pd fr bl) (hS : ∀ q ∈ S, q ∈ pd) : ∀ p ∈ S, ∀ b, p.2 = some b → b < bl.length := fun p hp b hb => by
 obtain ⟨o', hf⟩ := hI.fl p (hS p hp)
 rcases hf.ev with ⟨_, h1, _⟩ | ⟨_, h1, _⟩ | ⟨_, B, _, b', d', h1, _, _, _, hB⟩
 ·rw [hb] at h1; cases h1
 ·rw [hb] at h1; cases h1
 ·rw [hb] at h1; obtain rfl : b = b' := by simpa using h1
  exact (List.getElem?_eq_some_iff.1 hB).1
theorem run_grow {c : Cf} {o : Oper} (hc : opAt c = some o) {M : Type} (B : M → Bk) (n : Nat) (room : M → Nat)
  (h : ∀ (r : Nat → Nat) (N : Nat → Prop) (D : Nat → Prop) (a : Act) (w : World), FrOk r N c.fr D a → (∀ t ∈ opTmps o, ¬ D t) → BlOk r N c.bl C.base w → G w →
   ∃ m k cs w', (execOp a.eval o).run C.P w = .ok (.value (.slice (some ⟨k, 0, none⟩) n (room m))) w' ∧ w.heap.size ≤ k ∧ w'.heap[k]? = some (.cells cs (B m).t (0, 0)) ∧ CellsOk r N (B m).cells cs ∧ Below w.heap.size w w')
  (hk : ∀ m, Run C G (resumeG c (B m) n (room m))) : Run C G c := by
 intro hs
 have nil : ∀ p ∈ ([] : Pd), ∀ b, p.2 = some b → b < c.bl.length := fun p hp => by cases hp
 unfold opAt at hc
 split at hc
 ·rename_i ops i l hrg
  rw [hrg]
  intro r a w hst
  rw [wpOps_cons]
  split at hc
  ·rename_i o' ho
   split at hc
   ·rename_i hg
    obtain rfl : o' = o := by simpa using hc
    obtain ⟨m, k, cs, w', hrun, h1, h2, h3, hb⟩ := h r _ _ a w hst.fr (fun _ _ k => k) hst.bl hst.fact
    refine wpOp_val ho (gd_ok hg hst.fr fun _ _ k => k) hrun ?_
    have h4 := hk m hs
    have e1 : dstOf ops i = o'.dst := by simp [dstOf, ho]
    simp only [resumeG, hrg, resRg, resDst, e1] at h4
    exact h4 _ _ w' (grown_st hs n (room m) [] _ _ r a w w' k cs nil hst h1 h2 h3 hb)
   ·cases hc
  ·cases hc
 ·rename_i ops lst pd hrg
  split at hc
  ·rename_i x hrl
   split at hc
   ·rename_i o' ho
    split at hc
    ·rename_i hok
     simp only [Bool.and_eq_true] at hok
     split at hc
     ·rename_i hg
      obtain rfl : o' = o := by simpa using hc
      rw [hrg]
      intro hdn hI S r a w L fuel hS hL hcn hst
      have own := okOwn_ok hok.1
      obtain ⟨see, apart⟩ := okSee_ok hok.2
      refine drain hdn hI hs (fun S r a w L fuel i hS hL hcn hst hi hl => ?_) (fun hall r a w hst => ?_) fuel S r a w L hS hL hcn hst
      ·obtain ⟨rfl, o2, ho', hx, haft, hSa⟩ := only_ready (pd := pd) hrl hL hi hl
       rw [ho] at ho'
       obtain rfl : o' = o2 := by simpa using ho'
       have hno := seen_ok ho hS hL hi (fun d hd => (own d hd).1) see (wt_chain hI hS hx)
       have h0 := (mem_ready.1 hi).1
       obtain ⟨m, k, cs, w', hrun, h1, h2, h3, hb⟩ := h r _ _ a w hst.fr (fun t ht => hno t (looks_sub ht)) hst.bl hst.fact
       refine wpOp_val ho (gd_ok hg hst.fr hno) hrun ?_
       have h4 := hk m hs
       have e1 : dstOf ops i = o'.dst := by simp [dstOf, ho]
       simp only [resumeG, hrg, hrl, ho, resRg, resDst, e1] at h4
       exact h4 hdn (hI.next ho hx fun p hp o' ho' c' B' hcb hB' => by rw [List.getElem?_append_left (List.getElem?_eq_some_iff.1 hB').1]; exact hB') S _ _ _ _ fuel (fun q hq => mem_pdBehind.2 ⟨hS q hq, hSa q hq⟩) (hL.next hx fun p hp => hI.sub p (hS p hp)) (by have := cnt_set h0; omega)
        (grown_st hs n (room m) S _ _ r a w w' k cs (pd_lt hI hS) hst h1 h2 h3 hb)
      ·have hx : x ∈ readyL ops lst := by rw [hrl]; simp
       obtain ⟨o2, ho', h1, -⟩ := mem_readyL.1 hx
       exact absurd (hall x (Array.getElem?_eq_some_iff.1 ho').1) h1
     ·cases hc
    ·cases hc
   ·cases hc
  ·cases hc
 ·cases hc
theorem run_room {c : Cf} {o : Oper} (hc : opAt c = some o) (b off : Nat) (vs : List SV) (n m : Nat) (hE : eB C.E c.bl b = true) (hal : aloneB c b = true)
  (h : ∀ (r : Nat → Nat) (N : Nat → Prop) (D : Nat → Prop) (a : Act) (w : World), FrOk r N c.fr D a → (∀ t ∈ opTmps o, ¬ D t) → BlOk r N c.bl C.base w → G w →
   ∃ B cs us, c.bl[b]? = some B ∧ ¬ N b ∧ off + vs.length ≤ B.cells.length ∧ w.heap[r b]? = some (.cells cs B.t (0, 0)) ∧ CellsOk r N B.cells cs ∧ CellsOk r N vs us ∧
    (execOp a.eval o).run C.P w = .ok (.value (.slice (some ⟨r b, 0, none⟩) n m)) (w.setRow (r b) (cs.toList.take off ++ us.toList ++ cs.toList.drop (off + us.size)).toArray))
  (hk : Run C G (resumeR c b off vs n m)) : Run C G c := by
 intro hs
 unfold opAt at hc
 split at hc
 ·rename_i ops i l hrg
  rw [hrg]
  intro r a w hst
  rw [wpOps_cons]
  split at hc
  ·rename_i o' ho
   split at hc
   ·rename_i hg
    obtain rfl : o' = o := by simpa using hc
    obtain ⟨B, cs, us, hB, hnb, hle, hk', hcs, hus, hrun⟩ := h r _ _ a w hst.fr (fun _ _ k => k) hst.bl hst.fact
    refine wpOp_val ho (gd_ok hg hst.fr fun _ _ k => k) hrun ?_
    have h4 := hk hs
    have e1 : dstOf ops i = o'.dst := by simp [dstOf, ho]
    simp only [resumeR, hrg, resDst, e1] at h4
    refine h4 r _ _ ⟨?_, ?_, below_setRow' hst.w0 (C.base_of (eB_ok hE hB) ▸ (hst.bl.is b B hB hnb).1) _, hs w _ (Keep.setRow hk' (eB_ok hE hB) _) hst.fact⟩
    ·rw [NS_setBl]; exact hst.fr.put _ ⟨rfl, hnb⟩
    ·rw [NS_setBl]; exact hst.bl.store hB hnb hle hk' hcs hus
   ·cases hc
  ·cases hc
 ·rename_i ops lst pd hrg
  split at hc
  ·rename_i x hrl
   split at hc
   ·rename_i o' ho
    split at hc
    ·rename_i hok
     simp only [Bool.and_eq_true] at hok
     split at hc
     ·rename_i hg
      obtain rfl : o' = o := by simpa using hc
      rw [hrg]
      intro hdn hI S r a w L fuel hS hL hcn hst
      have own := okOwn_ok hok.1
      obtain ⟨see, apart⟩ := okSee_ok hok.2
      have hap : apartB ops c.fr b (pdBehind pd o') = true := by
       unfold aloneB at hal; rw [hrg] at hal; simp only [hrl, ho] at hal; exact hal
      refine drain hdn hI hs (fun S r a w L fuel i hS hL hcn hst hi hl => ?_) (fun hall r a w hst => ?_) fuel S r a w L hS hL hcn hst
      ·obtain ⟨rfl, o2, ho', hx, haft, hSa⟩ := only_ready (pd := pd) hrl hL hi hl
       rw [ho] at ho'
       obtain rfl : o' = o2 := by simpa using ho'
       have hno := seen_ok ho hS hL hi (fun d hd => (own d hd).1) see (wt_chain hI hS hx)
       have h0 := (mem_ready.1 hi).1
       obtain ⟨B, cs, us, hB, hnb, hle, hk', hcs, hus, hrun⟩ := h r _ _ a w hst.fr (fun t ht => hno t (looks_sub ht)) hst.bl hst.fact
       refine wpOp_val ho (gd_ok hg hst.fr hno) hrun ?_
       have h4 := hk hs
       have e1 : dstOf ops i = o'.dst := by simp [dstOf, ho]
       simp only [resumeR, hrg, hrl, ho, resRg, resDst, e1] at h4
       refine h4 hdn (hI.next ho hx fun p hp o2 ho2 c' B' hcb hB' => ?_) S r _ _ _ fuel (fun q hq => mem_pdBehind.2 ⟨hS q hq, hSa q hq⟩) (hL.next hx fun p hp => hI.sub p (hS p hp)) (by have := cnt_set h0; omega) ⟨?_, ?_, below_setRow' hst.w0 (C.base_of (eB_ok hE hB) ▸ (hst.bl.is b B hB hnb).1) _, hs w _ (Keep.setRow hk' (eB_ok hE hB) _) hst.fact⟩
       ·have hap := List.all_eq_true.1 hap p hp
        simp only [Bool.and_eq_true] at hap
        have hne : c' ≠ b := by
         rintro rfl
         rcases hcb with hcb | hcb
         ·have := hap.2
          rw [ho2] at this
          simp [hcb, Nat.beq_refl] at this
         ·have := hap.1
          simp [hcb, Nat.beq_refl] at this
        rw [setBl_ne hne]; exact hB'
       ·rw [NS_setBl]; exact hst.fr.put _ ⟨rfl, hnb⟩
       ·rw [NS_setBl]; exact hst.bl.store hB hnb hle hk' hcs hus
      ·have hx : x ∈ readyL ops lst := by rw [hrl]; simp
       obtain ⟨o2, ho', h1, -⟩ := mem_readyL.1 hx
       exact absurd (hall x (Array.getElem?_eq_some_iff.1 ho').1) h1
     ·cases hc
    ·cases hc
   ·cases hc
  ·cases hc
 ·cases hc
theorem run_callB {c : Cf} {f : FuncId} {ss : List SV} (hc : callAt c = some (f, ss)) (he : Enters C.P f) (B : Bk) (n : Nat)
  (h : ∀ (r : Nat → Nat) (N : Nat → Prop) (w : World) (us : List Value), Args r N ss us → BlOk r N c.bl C.base w → G w →
   Calls C.P f us.toArray w fun e w' => ∃ k cs, e = .returned (.slice (some ⟨k, 0, none⟩) n n) ∧ w.heap.size ≤ k ∧ w'.heap[k]? = some (.cells cs B.t (0, 0)) ∧ CellsOk r N B.cells cs ∧ Below w.heap.size w w')
  (hk : Run C G (resumeB c B n)) : Run C G c := by
 intro hs
 have eN : ∀ (S : Pd), (∀ p ∈ S, ∀ b, p.2 = some b → b < c.bl.length) → ∀ b, NS c.bl S b ↔ (NS (c.bl ++ [B]) S b ∨ b = c.bl.length) := fun S hS b => by
  constructor
  ·rintro (h | h)
   ·exact .inl (.inl h)
   ·by_cases e : b = c.bl.length
    ·exact .inr e
    ·left; right; simp; omega
  ·rintro ((h | h) | h)
   ·exact .inl h
   ·right; simp at h; omega
   ·right; omega
 have n0 : ∀ (S : Pd), (∀ p ∈ S, ∀ b, p.2 = some b → b < c.bl.length) → ¬ NS (c.bl ++ [B]) S c.bl.length := fun S hS => by
  rintro (⟨p, hp, h⟩ | h)
  ·have := hS p hp _ h; omega
  ·simp at h; omega
 have hbl : ∀ (S : Pd) (b : Nat) (B' : Bk), (c.bl ++ [B])[b]? = some B' → ¬ NS c.bl S b → c.bl[b]? = some B' := fun S b B' h hn => by
  have : b < c.bl.length := by
   rcases Nat.lt_or_ge b c.bl.length with h | h
   ·exact h
   ·exact absurd (.inr h) hn
  rwa [List.getElem?_append_left this] at h
 have hlen : ∀ (S : Pd) (b : Nat), b < (c.bl ++ [B]).length → ¬ NS c.bl S b → b < c.bl.length := fun S b _ hn => by
  rcases Nat.lt_or_ge b c.bl.length with h | h
  ·exact h
  ·exact absurd (.inr h) hn
 have grown : ∀ (S : Pd) (D : Nat → Prop) (d : Option Tmp) (r : Nat → Nat) (a : Act) (w w' : World) (k : Nat) (cs : Array Value), (∀ p ∈ S, ∀ b, p.2 = some b → b < c.bl.length) → St C G c.fr c.bl r (NS c.bl S) D a w → w.heap.size ≤ k → w'.heap[k]? = some (.cells cs B.t (0, 0)) →
   CellsOk r (NS c.bl S) B.cells cs → Below w.heap.size w w' →
   St C G (putS c.fr d (.sl c.bl.length 0 n n)) (c.bl ++ [B]) (fun b => if b = c.bl.length then k else r b) (NS (c.bl ++ [B]) S) D (a.put d (.slice (some ⟨k, 0, none⟩) n n)) w' := by
  intro S D d r a w w' k cs hS hst hk hcell hcs hb
  have hr : ∀ b, ¬ NS c.bl S b → (fun b => if b = c.bl.length then k else r b) b = r b := fun b hb => by
   have : b ≠ c.bl.length := fun e => hb ((eN S hS b).2 (.inr e))
   simp [this]
  exact ⟨((hst.fr.re hr).mono (fun b h => (eN S hS b).2 (.inl h)) fun _ h => h).put d ⟨by simp [SV.Is], n0 S hS⟩,
   hst.bl.grow hb (fun t => Nat.le_trans (C.base_le t) hst.w0.size) (by simp) (hbl S) (hlen S) (eN S hS) (n0 S hS) hk hcell hcs, hst.w0.trans (hb.mono hst.w0.size), hs w w' (Keep.below hb) hst.fact⟩
 have nil : ∀ p ∈ ([] : Pd), ∀ b, p.2 = some b → b < c.bl.length := fun p hp => by cases hp
 unfold callAt at hc
 split at hc
 ·rename_i ops i l hrg
  rw [hrg]
  intro r a w hst
  rw [wpOps_cons]
  split at hc
  ·rename_i o ho
   split at hc
   ·rename_i hg
    obtain ⟨us, hargs, hrun⟩ := callOf_ok (w := w) hc he hst.fr fun _ _ k => k
    refine wpOp_call ho (gd_ok hg hst.fr fun _ _ k => k) hrun (h r _ w us hargs hst.bl hst.fact) fun e w' ⟨k, cs, he, h1, h2, h3, hb⟩ => ⟨_, he, ?_⟩
    have h4 := hk hs
    have e1 : dstOf ops i = o.dst := by simp [dstOf, ho]
    simp only [resumeB, hrg, resRg, resDst, e1] at h4
    exact h4 _ _ w' (grown [] _ _ r a w w' k cs nil hst h1 h2 h3 hb)
   ·cases hc
  ·cases hc
 ·rename_i ops lst pd hrg
  split at hc
  ·rename_i x hrl
   split at hc
   ·rename_i o ho
    split at hc
    ·rename_i hok
     simp only [Bool.and_eq_true] at hok
     split at hc
     ·rename_i hg
      rw [hrg]
      intro hdn hI S r a w L fuel hS hL hcn hst
      have own := okOwn_ok hok.1
      obtain ⟨see, apart⟩ := okSee_ok hok.2
      refine drain hdn hI hs (fun S r a w L fuel i hS hL hcn hst hi hl => ?_) (fun hall r a w hst => ?_) fuel S r a w L hS hL hcn hst
      ·obtain ⟨rfl, o', ho', hx, haft, hSa⟩ := only_ready (pd := pd) hrl hL hi hl
       rw [ho] at ho'
       obtain rfl : o = o' := by simpa using ho'
       have hno := seen_ok ho hS hL hi (fun d hd => (own d hd).1) see (wt_chain hI hS hx)
       obtain ⟨us, hargs, hrun⟩ := callOf_ok (w := w) hc he hst.fr fun t ht => hno t (looks_sub ht)
       have h0 := (mem_ready.1 hi).1
       have hSb : ∀ p ∈ S, ∀ b, p.2 = some b → b < c.bl.length := fun p hp b hb => by
        obtain ⟨o', hf⟩ := hI.fl p (hS p hp)
        rcases hf.ev with ⟨_, h1, _⟩ | ⟨_, h1, _⟩ | ⟨_, B, _, b', d', h1, _, _, _, hB⟩
        ·rw [hb] at h1; cases h1
        ·rw [hb] at h1; cases h1
        ·rw [hb] at h1; obtain rfl : b = b' := by simpa using h1
         exact (List.getElem?_eq_some_iff.1 hB).1
       refine wpOp_call ho (gd_ok hg hst.fr hno) hrun (h r _ w us hargs hst.bl hst.fact) fun e w' ⟨k, cs, he, h1, h2, h3, hb⟩ => ⟨_, he, ?_⟩
       have h4 := hk hs
       have e1 : dstOf ops i = o.dst := by simp [dstOf, ho]
       simp only [resumeB, hrg, hrl, ho, resRg, resDst, e1] at h4
       exact h4 hdn (hI.next ho hx fun p hp o' ho' c' B' hcb hB' => by rw [List.getElem?_append_left (List.getElem?_eq_some_iff.1 hB').1]; exact hB') S _ _ _ _ fuel (fun q hq => mem_pdBehind.2 ⟨hS q hq, hSa q hq⟩) (hL.next hx fun p hp => hI.sub p (hS p hp)) (by have := cnt_set h0; omega)
        (grown S _ _ r a w w' k cs hSb hst h1 h2 h3 hb)
      ·have hx : x ∈ readyL ops lst := by rw [hrl]; simp
       obtain ⟨o', ho', h1, -⟩ := mem_readyL.1 hx
       exact absurd (hall x (Array.getElem?_eq_some_iff.1 ho').1) h1
     ·cases hc
    ·cases hc
   ·cases hc
  ·cases hc
 ·cases hc
end
theorem args_vals {r : Nat → Nat} {N : Nat → Prop} : ∀ {vs us : List Value}, Args r N (vs.map .val) us → us = vs
 | [], [], _ => rfl
 | v :: vs, u :: us, h => by
  have h1 : u = v := h.1.1
  rw [h1, args_vals h.2]
 | [], _ :: _, h => h.elim
 | _ :: _, [], h => h.elim
section
variable {C : Cx} {G : World → Prop}
theorem run_callv {c : Cf} {f : FuncId} {vs : List Value} (hc : callAt c = some (f, vs.map .val)) (he : Enters C.P f) {X : Type} (val : X → Value) (fact : X → World → Prop) (hfs : ∀ x, Stable C.E (fact x))
  (h : ∀ w, G w → Calls C.P f vs.toArray w fun e w' => ∃ x, e = .returned (val x) ∧ Below w.heap.size w w' ∧ fact x w') (hk : ∀ x, Run C (fun w => G w ∧ fact x w) (resume c (.val (val x)))) : Run C G c :=
 run_call hc he (fun x => .val (val x)) fact hfs (fun _ _ => trivial) (fun r N w us ha _ hG => by
  rw [args_vals ha]
  exact (h w hG).mono fun e w' ⟨x, h1, h2, h3⟩ => ⟨x, val x, h1, rfl, h2, h3⟩) hk
theorem Run.mono {G' : World → Prop} {c : Cf} (h : Run C G' c) (hs : Stable C.E G') (hG : ∀ w, G w → G' w) : Run C G c := by
 intro _
 have h1 := h hs
 have st : ∀ {fr bl r N D a w}, St C G fr bl r N D a w → St C G' fr bl r N D a w := fun k => ⟨k.fr, k.bl, k.w0, hG _ k.fact⟩
 split
 ·rename_i hrg; rw [hrg] at h1; exact fun r a w k => h1 r a w (st k)
 ·rename_i hrg; rw [hrg] at h1; exact fun r a w k => h1 r a w (st k)
 ·rename_i hrg; rw [hrg] at h1; exact fun hd hI S r a w L fuel hS hL hc k => h1 hd hI S r a w L fuel hS hL hc (st k)
theorem run_call1 {c : Cf} {f : FuncId} {vs : List Value} (hc : callAt c = some (f, vs.map .val)) (he : Enters C.P f) (v : Value) (h : ∀ w, G w → Calls C.P f vs.toArray w fun e w' => e = .returned v ∧ Below w.heap.size w w')
  (hk : Run C G (resume c (.val v))) : Run C G c := fun hs =>
 run_callv hc he (X := Unit) (fun _ => v) (fun _ _ => True) (fun _ _ _ _ _ => trivial) (fun w hG => (h w hG).mono fun e w' ⟨h1, h2⟩ => ⟨(), h1, h2, trivial⟩) (fun _ => hk.mono hs fun w h => h.1) hs
def loadAt (c : Cf) : Option (TypeId × Addr) := match c.rg with
 | some (.plain ops (i :: _)) => match ops[i]? with
  | some o => match gd ops c.fr o with
   | some true => match o.op with
    | .load T x => match opS c.fr x with
     | .val (.pointer (some a)) => some (T, a)
     | _ => none
    | _ => none
   | _ => none
  | none => none
 | _ => none
theorem run_ldv {c : Cf} {T : TypeId} {ad : Addr} {v : Value} (hc : loadAt c = some (T, ad)) (h : ∀ w, G w → (loadVar T ad).run C.P w = .ok v w) (hk : Run C G (resume c (.val v))) : Run C G c := by
 intro hs
 have h1 := hk hs
 unfold loadAt at hc
 split at hc
 ·rename_i ops i l hrg
  rw [hrg]
  intro r a w hst
  rw [wpOps_cons]
  split at hc
  ·rename_i o ho
   split at hc
   ·rename_i hg
    split at hc
    ·rename_i T' x hop
     split at hc
     ·rename_i ad' hx
      simp only [Option.some.injEq, Prod.mk.injEq] at hc; obtain ⟨rfl, rfl⟩ := hc
      have h2 := (opS_ok (x := x) hst.fr fun _ _ k => k).1
      rw [hx] at h2
      have h3 : a.eval x = _ := h2
      have e1 : dstOf ops i = o.dst := by simp [dstOf, ho]
      simp only [resume, hrg, resRg, resDst, e1] at h1
      refine wpOp_val ho (gd_ok hg hst.fr fun _ _ k => k) (u := v) (w' := w) ?_ (h1 r _ w ⟨hst.fr.put _ ⟨rfl, trivial⟩, hst.bl, hst.w0, hst.fact⟩)
      unfold execOp; rw [hop]
      simp only [h3, Instr.loadAt, Instr.sureAddr, Sem.run_bind, Sem.run_pure, Result.andThen_ok, h w hst.fact]
     ·cases hc
    ·cases hc
   ·cases hc
  ·cases hc
 ·cases hc
def idxAt (c : Cf) : Option (TypeId × Value × Value) := match c.rg with
 | some (.plain ops (i :: _)) => match ops[i]? with
  | some o => match gd ops c.fr o with
   | some true => match o.op with
    | .indexAddr T x j => match opS c.fr x, opS c.fr j with
     | .val v, .val u => some (T, v, u)
     | _, _ => none
    | _ => none
   | _ => none
  | none => none
 | _ => none
theorem run_idx {c : Cf} {T : TypeId} {xv jv v : Value} (hc : idxAt c = some (T, xv, jv)) (h : ∀ w, G w → (Instr.indexAt T xv jv).run C.P w = .ok v w) (hk : Run C G (resume c (.val v))) : Run C G c := by
 intro hs
 have h1 := hk hs
 unfold idxAt at hc
 split at hc
 ·rename_i ops i l hrg
  rw [hrg]
  intro r a w hst
  rw [wpOps_cons]
  split at hc
  ·rename_i o ho
   split at hc
   ·rename_i hg
    split at hc
    ·rename_i T' x j hop
     split at hc
     ·rename_i v' u' hx hj
      simp only [Option.some.injEq, Prod.mk.injEq] at hc; obtain ⟨rfl, rfl, rfl⟩ := hc
      have h2 := (opS_ok (x := x) hst.fr fun _ _ k => k).1
      rw [hx] at h2
      have h3 : a.eval x = _ := h2
      have h4 := (opS_ok (x := j) hst.fr fun _ _ k => k).1
      rw [hj] at h4
      have h5 : a.eval j = _ := h4
      have e1 : dstOf ops i = o.dst := by simp [dstOf, ho]
      simp only [resume, hrg, resRg, resDst, e1] at h1
      refine wpOp_val ho (gd_ok hg hst.fr fun _ _ k => k) (u := v) (w' := w) ?_ (h1 r _ w ⟨hst.fr.put _ ⟨rfl, trivial⟩, hst.bl, hst.w0, hst.fact⟩)
      unfold execOp; rw [hop]
      simp only [h3, h5, Sem.run_bind, Result.andThen_ok, h w hst.fact]
      rfl
     ·cases hc
    ·cases hc
   ·cases hc
  ·cases hc
 ·cases hc
def divAt (c : Cf) : Option (Bool × TypeId × Value × Value) := match c.rg with
 | some (.plain ops (i :: _)) => match ops[i]? with
  | some o => match gd ops c.fr o with
   | some true => match o.op with
    | .binOp .quo T x y _ => match opS c.fr x, opS c.fr y with
     | .val v, .val u => some (true, T, v, u)
     | _, _ => none
    | .binOp .rem T x y _ => match opS c.fr x, opS c.fr y with
     | .val v, .val u => some (false, T, v, u)
     | _, _ => none
    | _ => none
   | _ => none
  | none => none
 | _ => none
theorem run_div {c : Cf} {q : Bool} {T : TypeId} {xv yv v : Value} (hc : divAt c = some (q, T, xv, yv)) (h : ∀ w, (binOp (if q = true then .quo else .rem) T xv yv).run C.P w = .ok v w) (hk : Run C G (resume c (.val v))) : Run C G c := by
 intro hs
 have h1 := hk hs
 unfold divAt at hc
 split at hc
 ·rename_i ops i l hrg
  rw [hrg]
  intro r a w hst
  rw [wpOps_cons]
  split at hc
  ·rename_i o ho
   split at hc
   ·rename_i hg
    have e1 : dstOf ops i = o.dst := by simp [dstOf, ho]
    simp only [resume, hrg, resRg, resDst, e1] at h1
    have fin : ∀ x y T' yT op, o.op = .binOp op T' x y yT → (op = .quo ∨ op = .rem) → (∀ w, (binOp op T' (a.eval x) (a.eval y)).run C.P w = .ok v w) → wpOp C.P ops (QK C.P C.f C.R c.todo) i (wpOps C.P ops (QK C.P C.f C.R c.todo) l) a w := fun x y T' yT op hop hq hr => by
     refine wpOp_val ho (gd_ok hg hst.fr fun _ _ k => k) (u := v) (w' := w) ?_ (h1 r _ w ⟨hst.fr.put _ ⟨rfl, trivial⟩, hst.bl, hst.w0, hst.fact⟩)
     unfold execOp; rw [hop]
     have hg : (eqGuard op T' x y (a.eval x) (a.eval y)).run C.P w = .ok () w := by rcases hq with rfl | rfl <;> rfl
     simp only [Sem.run_bind, hg, Result.andThen_ok, hr w]
     rfl
    split at hc
    ·rename_i T' x y yT hop
     split at hc
     ·rename_i v' u' hx hy
      simp only [Option.some.injEq, Prod.mk.injEq] at hc; obtain ⟨rfl, rfl, rfl, rfl⟩ := hc
      have h2 := (opS_ok (x := x) hst.fr fun _ _ k => k).1
      have h4 := (opS_ok (x := y) hst.fr fun _ _ k => k).1
      rw [hx] at h2; rw [hy] at h4
      have h3 : a.eval x = _ := h2
      have h5 : a.eval y = _ := h4
      exact fin x y _ yT .quo hop (.inl rfl) fun w => by rw [h3, h5]; exact h w
     ·cases hc
    ·rename_i T' x y yT hop
     split at hc
     ·rename_i v' u' hx hy
      simp only [Option.some.injEq, Prod.mk.injEq] at hc; obtain ⟨rfl, rfl, rfl, rfl⟩ := hc
      have h2 := (opS_ok (x := x) hst.fr fun _ _ k => k).1
      have h4 := (opS_ok (x := y) hst.fr fun _ _ k => k).1
      rw [hx] at h2; rw [hy] at h4
      have h3 : a.eval x = _ := h2
      have h5 : a.eval y = _ := h4
      exact fin x y _ yT .rem hop (.inr rfl) fun w => by rw [h3, h5]; exact h w
     ·cases hc
    ·cases hc
   ·cases hc
  ·cases hc
 ·cases hc
theorem run_know {c : Cf} {p : Prop} (h : ∀ w, G w → p) (hk : p → Run C G c) : Run C G c := by
 intro hs
 split
 ·rename_i hrg
  intro r a w hst
  have h1 := hk (h w hst.fact) hs
  rw [hrg] at h1
  exact h1 r a w hst
 ·rename_i hrg
  intro r a w hst
  have h1 := hk (h w hst.fact) hs
  rw [hrg] at h1
  exact h1 r a w hst
 ·rename_i hrg
  intro hd hI S r a w L fuel hS hL hc hst
  have h1 := hk (h w hst.fact) hs
  rw [hrg] at h1
  exact h1 hd hI S r a w L fuel hS hL hc hst
/-! the end -/
def resV (P : Program) (fr : List SV) (bl : List Bk) : ResultVar → Option Value
 | .tmp t => match fr[t]? with
  | some (.val v) => some v
  | _ => none
 | .cell t T => match fr[t]? with
  | some (.ptr b n) => match bl[b]? with
   | some B => match loadS P T B.cells n with
    | some (.value (.val v)) => some v
    | _ => none
   | none => none
  | _ => none
def resVs (P : Program) (fr : List SV) (bl : List Bk) : List ResultVar → Option (List Value)
 | [] => some []
 | x :: l => match resV P fr bl x with
  | some v => match resVs P fr bl l with
   | some vs => some (v :: vs)
   | none => none
  | none => none
def atEnd (c : Cf) : Bool := match c.rg with
 | none => match c.todo with
  | [] => true
  | .code .ret :: _ => true
  | _ => false
 | _ => false
def retAt (P : Program) (rs : List ResultVar) (c : Cf) : Option Value := match atEnd c with
 | true => match resVs P c.fr c.bl rs with
  | some [v] => some v
  | some vs => some (.tuple vs.toArray)
  | none => none
 | false => none
def resM (tmps : Array Value) : ResultVar → Sem Value
 | .tmp t => pure (tmps.getD t undef)
 | .cell ad t => do loadVar t (← asAddr (tmps.getD ad undef))
theorem results_eq (fn : Func) (tmps : Array Value) : results fn tmps = (do let vs ← fn.results.mapM (resM tmps); pure (if h : vs.size = 1 then vs[0] else .tuple vs)) := by
 unfold results
 exact congrArg (fun g => (do let vs ← fn.results.mapM g; pure (if h : vs.size = 1 then vs[0] else .tuple vs) : Sem Value)) (funext fun x => by cases x <;> rfl)
theorem resV_ok {fr : List SV} {bl : List Bk} {r : Nat → Nat} {N : Nat → Prop} {D : Nat → Prop} {a : Act} {base : TypeId → Nat} {w : World} {P : Program} {x : ResultVar} {v : Value} (h : resV P fr bl x = some v) (hfr : FrOk r N fr (fun _ => False) a) (hbl : BlOk r N bl base w) :
  (resM a.tmps x).run P w = .ok v w := by
 cases x with
 | tmp t =>
  simp only [resV] at h
  split at h
  ·rename_i v' hv
   obtain rfl : v' = v := by simpa using h
   obtain ⟨u, hu, hi, -⟩ := hfr.at_ t _ hv (fun k => k)
   obtain rfl : u = v' := hi
   simp [resM, Array.getD_eq_getD_getElem?, hu]
  ·cases h
 | cell t T =>
  simp only [resV] at h
  split at h
  ·rename_i b n hv
   split at h
   ·rename_i B hB
    split at h
    ·rename_i v' hl
     obtain rfl : v' = v := by simpa using h
     obtain ⟨u, hu, hi, hf⟩ := hfr.at_ t _ hv (fun k => k)
     obtain rfl : u = _ := hi
     obtain ⟨s, e, u', ho, hrun⟩ := loadS_ok (w := w) hl (hbl.is b B hB hf).2
     obtain rfl : SV.val v' = s := by simpa using e
     obtain rfl : u' = v' := ho.1
     simp [resM, Array.getD_eq_getD_getElem?, hu, asAddr, Sem.run_bind, hrun]
    ·cases h
   ·cases h
  ·cases h
theorem results_ok {fr : List SV} {bl : List Bk} {r : Nat → Nat} {N : Nat → Prop} {a : Act} {base : TypeId → Nat} {w : World} {P : Program} (hfr : FrOk r N fr (fun _ => False) a) (hbl : BlOk r N bl base w) : ∀ {rs : List ResultVar} {vs : List Value}, resVs P fr bl rs = some vs →
  (rs.mapM (resM a.tmps)).run P w = .ok vs w
 | [], vs, h => by simp only [resVs, Option.some.injEq] at h; subst h; rfl
 | x :: l, vs, h => by
  simp only [resVs] at h
  split at h
  ·rename_i v hv
   split at h
   ·rename_i us hus
    obtain rfl : v :: us = vs := by simpa using h
    simp only [List.mapM_cons, Sem.run_bind, resV_ok (D := fun _ => False) hv hfr hbl, Result.andThen_ok, results_ok hfr hbl hus, Sem.run_pure]
   ·cases h
  ·cases h
theorem run_ret {c : Cf} {fn : Func} {v : Value} (hf : C.P.funcs[C.f]? = some fn) (h : retAt C.P fn.results.toList c = some v) (hR : ∀ w, Below C.w0.heap.size C.w0 w → G w → C.R (.returned v) w) : Run C G c := by
  intro hs
  have hrg : c.rg = none ∧ (c.todo = [] ∨ ∃ k, c.todo = .code .ret :: k) := by
    unfold retAt at h
    split at h
    · rename_i ha
      unfold atEnd at ha
      split at ha
      · rename_i hrg
        split at ha
        · rename_i ht; exact ⟨hrg, .inl ht⟩
        · rename_i k ht; exact ⟨hrg, .inr ⟨k, ht⟩⟩
        · cases ha
      · cases ha
    · cases h
  rw [hrg.1]
  intro r a w hst
  have hres : (results fn a.tmps).run C.P w = .ok v w := by
    unfold retAt at h
    split at h
    · cases hvs : resVs C.P c.fr c.bl fn.results.toList with
      | none => rw [hvs] at h; cases h
      | some vs =>
        have h1 := results_ok (r := r) (a := a) hst.fr hst.bl hvs
        have h2 : (if h : vs.toArray.size = 1 then vs.toArray[0] else Value.tuple vs.toArray) = v := by
          rw [hvs] at h
          match vs, h with
          | [], h => obtain rfl : Value.tuple #[] = v := by simpa using h
                     rfl
          | [x], h => obtain rfl : x = v := by simpa using h
                      rfl
          | x :: y :: l, h => obtain rfl : Value.tuple (x :: y :: l).toArray = v := by simpa using h
                              simp
        rw [results_eq]
        simp only [Sem.run_bind, Array.mapM_eq_mapM_toList, Sem.run_map]
        rw [h1]
        simp only [Result.andThen_ok, Sem.run_pure]
        rw [h2]
    · cases h
  have hR' := hR w hst.w0 hst.fact
  rcases hrg.2 with ht | ⟨k, ht⟩
  · rw [ht]
    intro cs
    exact ⟨.returned v, w, _, hR', Steps.one step_end, rfl, rfl, hst.fr.nod, rfl, fn, hf, hres⟩
  · rw [ht]
    intro cs
    exact ⟨.returned v, w, _, hR', Steps.one step_ret, rfl, rfl, hst.fr.nod, rfl, fn, hf, hres⟩
def retSl (rs : List ResultVar) (c : Cf) : Option (List Value × TypeId × Nat) := match atEnd c with
 | true => match rs with
  | [.tmp t] => match c.fr[t]? with
   | some (.sl b 0 n m) => match Nat.beq n m with
    | true => match c.bl[b]? with
     | some B => match valsOf B.cells with
      | some vs => some (vs, B.t, n)
      | none => none
     | none => none
    | false => none
   | _ => none
  | _ => none
 | false => none
theorem cellsOk_eq {r : Nat → Nat} {N : Nat → Prop} {vs : List Value} {cs : Array Value} (h : CellsOk r N (vs.map .val) cs) : cs = vs.toArray := by
 obtain ⟨h1, h2⟩ := h
 apply Array.ext'
 apply List.ext_getElem?
 intro i
 cases hv : vs[i]? with
 | none =>
  simp only [List.getElem?_eq_none_iff] at hv ⊢
  simp only [List.length_map] at h1
  have : i ≥ cs.toList.length := by simp; omega
  simp [hv]; omega
 | some v =>
  obtain ⟨u, hu, hi⟩ := h2 i (.val v) (by simp [hv])
  obtain rfl : u = v := hi.1
  simp [hu, hv]
theorem run_retSl {c : Cf} {fn : Func} {vs : List Value} {T : TypeId} {n : Nat} (hf : C.P.funcs[C.f]? = some fn) (hm : memN 999999 C.E = false) (h : retSl fn.results.toList c = some (vs, T, n))
  (hR : ∀ w k, Below C.w0.heap.size C.w0 w → G w → C.w0.heap.size ≤ k → w.heap[k]? = some (.cells vs.toArray T (0, 0)) → C.R (.returned (.slice (some ⟨k, 0, none⟩) n n)) w) : Run C G c := by
 intro hs
 unfold retSl at h
 split at h
 ·rename_i ha
  have hrg : c.rg = none ∧ (c.todo = [] ∨ ∃ k, c.todo = .code .ret :: k) := by
   unfold atEnd at ha
   split at ha
   ·rename_i hrg
    split at ha
    ·rename_i ht; exact ⟨hrg, .inl ht⟩
    ·rename_i k ht; exact ⟨hrg, .inr ⟨k, ht⟩⟩
    ·cases ha
   ·cases ha
  split at h
  ·rename_i t hrs
   split at h
   ·rename_i b n' m hfr
    split at h
    ·rename_i hnm
     have hnm' := Nat.eq_of_beq_eq_true hnm
     split at h
     ·rename_i B hB
      split at h
      ·rename_i us hus
       simp only [Option.some.injEq, Prod.mk.injEq] at h
       obtain ⟨rfl, rfl, rfl⟩ := h
       rw [hrg.1]
       intro r a w hst
       obtain ⟨u, hu, hi, hfrs⟩ := hst.fr.at_ t _ hfr (fun k => k)
       obtain rfl : u = _ := hi
       obtain ⟨hb1, cs, hb2, hb3⟩ := hst.bl.is b B hB hfrs
       rw [valsOf_map hus] at hb3
       obtain rfl := cellsOk_eq hb3
       have hres : (results fn a.tmps).run C.P w = .ok (.slice (some ⟨r b, 0, none⟩) n' n') w := by
        rw [results_eq]
        simp only [Sem.run_bind, Array.mapM_eq_mapM_toList, Sem.run_map, hrs]
        simp [resM, Array.getD_eq_getD_getElem?, hu, hnm', Sem.run_bind]
       have hR' := hR w (r b) hst.w0 hst.fact (Cx.base_no hm ▸ hb1) hb2
       rcases hrg.2 with ht | ⟨k, ht⟩
       ·rw [ht]
        intro cs
        exact ⟨_, w, _, hR', Steps.one step_end, rfl, rfl, hst.fr.nod, rfl, fn, hf, hres⟩
       ·rw [ht]
        intro cs
        exact ⟨_, w, _, hR', Steps.one step_ret, rfl, rfl, hst.fr.nod, rfl, fn, hf, hres⟩
      ·cases h
     ·cases h
    ·cases h
   ·cases h
  ·cases h
 ·cases h
/-! the beginning -/
def startS (fn : Func) (args : List Value) : Cf := match fn.body with
 | some c => ⟨[.code c], none, (args ++ List.replicate (fn.ntmps - args.length) undef).map .val, []⟩
 | none => ⟨[], none, [], []⟩
theorem calls_run {P : Program} {f : FuncId} {fn : Func} {c : Code} {args : List Value} {w : World} {R : Ending → World → Prop} (E : List TypeId) (G : World → Prop) (hf : P.funcs[f]? = some fn) (hb : fn.body = some c) (hs : Stable E G) (hG : G w)
  (h : Run ⟨P, f, E, w, R⟩ G (startS fn args)) : Calls P f args.toArray w R := by
 have e : startS fn args = ⟨[.code c], none, (args ++ List.replicate (fn.ntmps - args.length) undef).map .val, []⟩ := by simp only [startS, hb]
 rw [e] at h
 have h1 := h hs (fun _ => 0) { tmps := args.toArray ++ Array.replicate (fn.ntmps - args.toArray.size) undef, defers := [] } w ⟨⟨by simp, fun t s ht _ => ?_, rfl⟩, ⟨fun b B hB => by simp at hB, fun b b' hb => by simp at hb⟩, Below.refl _ _, hG⟩
 ·intro cs
  have henter : Frame.enter P f args.toArray .normal = (base0 f).at { tmps := args.toArray ++ Array.replicate (fn.ntmps - args.toArray.size) undef, defers := [] } [.code c] := by
   simp [Frame.enter, Frame.at, hf, hb, base0]
  rw [henter]
  exact h1 cs
 ·simp only [List.getElem?_map, Option.map_eq_some_iff] at ht
  obtain ⟨u, hu, rfl⟩ := ht
  refine ⟨u, ?_, rfl, trivial⟩
  rw [← Array.getElem?_toList]
  simpa using hu
def startB (fn : Func) (ss : List SV) (bl : List Bk) : Cf := match fn.body with
 | some c => ⟨[.code c], none, ss ++ List.replicate (fn.ntmps - ss.length) (.val undef), bl⟩
 | none => ⟨[], none, [], []⟩
theorem args_at {r : Nat → Nat} {N : Nat → Prop} : ∀ {ss : List SV} {us : List Value}, Args r N ss us → ss.length = us.length ∧ ∀ (t : Nat) (s : SV), ss[t]? = some s → ∃ u, us[t]? = some u ∧ s.Ok r N u
 | [], [], _ => ⟨rfl, fun t s h => by simp at h⟩
 | s :: ss, u :: us, h => by
  obtain ⟨h1, h2⟩ := args_at h.2
  refine ⟨by simp [h1], fun t s' ht => ?_⟩
  cases t with
  | zero =>
   obtain rfl : s = s' := by simpa using ht
   exact ⟨u, by simp, h.1⟩
  | succ t =>
   obtain ⟨u', a, b⟩ := h2 t s' (by simpa using ht)
   exact ⟨u', by simpa using a, b⟩
 | [], _ :: _, h => h.elim
 | _ :: _, [], h => h.elim
theorem calls_runB {P : Program} {f : FuncId} {fn : Func} {c : Code} {ss : List SV} {us : List Value} {bl : List Bk} {r : Nat → Nat} {w : World} {R : Ending → World → Prop} (E : List TypeId) (G : World → Prop) (hf : P.funcs[f]? = some fn) (hb : fn.body = some c) (hs : Stable E G) (hG : G w)
  (ha : Args r (fun b => bl.length ≤ b) ss us) (hbl : BlOk r (fun b => bl.length ≤ b) bl (Cx.base ⟨P, f, E, w, R⟩) w) (h : Run ⟨P, f, E, w, R⟩ G (startB fn ss bl)) : Calls P f us.toArray w R := by
 have e : startB fn ss bl = ⟨[.code c], none, ss ++ List.replicate (fn.ntmps - ss.length) (.val undef), bl⟩ := by simp only [startB, hb]
 rw [e] at h
 obtain ⟨hlen, hat⟩ := args_at ha
 have eN : (fun b => bl.length ≤ b) = NS bl [] := funext fun b => propext NS_nil.symm
 rw [eN] at hat hbl
 have h1 := h hs r { tmps := us.toArray ++ Array.replicate (fn.ntmps - us.toArray.size) undef, defers := [] } w ⟨⟨by simp [hlen], fun t s ht _ => ?_, rfl⟩, hbl, Below.refl _ _, hG⟩
 ·intro cs
  have henter : Frame.enter P f us.toArray .normal = (base0 f).at { tmps := us.toArray ++ Array.replicate (fn.ntmps - us.toArray.size) undef, defers := [] } [.code c] := by
   simp [Frame.enter, Frame.at, hf, hb, base0]
  rw [henter]
  exact h1 cs
 ·rw [List.getElem?_append] at ht
  split at ht
  ·obtain ⟨u, a, b⟩ := hat t s ht
   refine ⟨u, ?_, b⟩
   have hlt : t < us.length := (List.getElem?_eq_some_iff.1 a).1
   simp [Array.getElem?_append, hlt]
   exact (List.getElem?_eq_some_iff.1 a).2
  ·rename_i hge
   have hs' : s = .val undef := by
    rw [List.getElem?_replicate] at ht
    split at ht
    ·simpa using ht.symm
    ·cases ht
   have hlt : t - ss.length < fn.ntmps - ss.length := by
    rw [List.getElem?_replicate] at ht
    split at ht
    ·assumption
    ·cases ht
   subst hs'
   refine ⟨undef, ?_, rfl, trivial⟩
   have h3 : ¬ t < us.length := by omega
   have h4 : t - us.length < fn.ntmps - us.length := by omega
   simp [Array.getElem?_append, h3, h4]
/-! forgetting -/
def keepS (ts : List Nat) (fr : List SV) : List SV := fr.mapIdx fun i s => match memN i ts with
 | true => s
 | false => .any
theorem FrOk.keep {r : Nat → Nat} {N : Nat → Prop} {fr : List SV} {D : Nat → Prop} {a : Act} (h : FrOk r N fr D a) (ts : List Nat) : FrOk r N (keepS ts fr) D a :=
 ⟨by simp [keepS, h.size], fun t s ht hD => by
  simp only [keepS, List.getElem?_mapIdx, Option.map_eq_some_iff] at ht
  obtain ⟨s', hs', e⟩ := ht
  obtain ⟨u, hu, ho⟩ := h.at_ t s' hs' hD
  refine ⟨u, hu, ?_⟩
  split at e
  ·subst e; exact ho
  ·subst e; exact ⟨trivial, trivial⟩, h.nod⟩
def forget (ts : List Nat) (c : Cf) : Cf := ⟨c.todo, c.rg, keepS ts c.fr, c.bl⟩
theorem run_forget {c : Cf} (hrg : (match c.rg with | none => true | _ => false) = true) (ts : List Nat) (h : Run C G (forget ts c)) : Run C G c := by
 intro hs
 have h1 := h hs
 have e : c.rg = none := by
  cases hc : c.rg with
  | none => rfl
  | some x => rw [hc] at hrg; cases hrg
 simp only [forget, e] at h1
 rw [e]
 exact fun r a w hst => h1 r a w ⟨hst.fr.keep ts, hst.bl, hst.w0, hst.fact⟩
def drop (n : Nat) (c : Cf) : Cf := ⟨c.todo, c.rg, c.fr, c.bl.take n⟩
/-! loops -/
def loopAt (c : Cf) : Option (Code × List Item) := match c.rg with
 | none => match c.todo with
  | .code (.loop b) :: k => some (b, k)
  | _ => none
 | _ => none
def inLoop (c : Cf) (b : Code) (k : List Item) : Cf := ⟨.inLoop b :: k, none, c.fr, c.bl⟩
def loopBack (c : Cf) : Option (Code × List Item) := match c.rg with
 | none => match c.todo with
  | .inLoop b :: k => some (b, k)
  | _ => none
 | _ => none
theorem run_loop {c : Cf} {b : Code} {k : List Item} (hc : loopAt c = some (b, k)) {X : Type} (I : X → List SV × List Bk) (F : X → World → Prop) (hF : ∀ x, Stable C.E (F x)) (m : X → Nat) (x0 : X) (h0 : (c.fr, c.bl) = I x0) (hG : ∀ w, G w → F x0 w)
  (round : ∀ x, (∀ x' G', m x' < m x → (∀ w, G' w → F x' w) → Run C G' ⟨.inLoop b :: k, none, (I x').1, (I x').2⟩) → Run C (F x) ⟨.code b :: .inLoop b :: k, none, (I x).1, (I x).2⟩) : Run C G c := by
 intro hs
 have hrg : c.rg = none ∧ c.todo = .code (.loop b) :: k := by
  unfold loopAt at hc
  split at hc
  ·rename_i hrg
   split at hc
   ·rename_i b' k' ht
    simp only [Option.some.injEq, Prod.mk.injEq] at hc; obtain ⟨rfl, rfl⟩ := hc
    exact ⟨hrg, ht⟩
   ·cases hc
  ·cases hc
 have key : ∀ n x, m x = n → Run C (F x) ⟨.code b :: .inLoop b :: k, none, (I x).1, (I x).2⟩ := by
  intro n
  induction n using Nat.strongRecOn with
  | _ n ih =>
   intro x hx
   refine round x fun x' G' hlt hG' => ?_
   intro hs' r a w hst
   exact Goes.step (fun cs => step_inLoop) (ih (m x') (hx ▸ hlt) x' rfl (hF x') r a w ⟨hst.fr, hst.bl, hst.w0, hG' _ hst.fact⟩)
 rw [hrg.1, hrg.2]
 intro r a w hst
 have h1 := key _ x0 rfl (hF x0)
 rw [← h0] at h1
 exact Goes.step (fun cs => step_loop) (h1 r a w ⟨hst.fr, hst.bl, hst.w0, hG w hst.fact⟩)
theorem run_back {c : Cf} {b : Code} {k : List Item} (hc : loopBack c = some (b, k)) {fr : List SV} {bl : List Bk} (h0 : (c.fr, c.bl) = (fr, bl)) (h : Run C G ⟨.inLoop b :: k, none, fr, bl⟩) : Run C G c := by
 have e : c = ⟨.inLoop b :: k, none, fr, bl⟩ := by
  obtain ⟨todo, rg, fr', bl'⟩ := c
  simp only [Prod.mk.injEq] at h0
  obtain ⟨rfl, rfl⟩ := h0
  unfold loopBack at hc
  split at hc
  ·rename_i hrg
   split at hc
   ·rename_i b' k' ht
    simp only [Option.some.injEq, Prod.mk.injEq] at hc; obtain ⟨rfl, rfl⟩ := hc
    simp only at hrg ht
    rw [hrg, ht]
   ·cases hc
  ·cases hc
 rw [e]; exact h
def unrollT : List Item → List Item
 | .code (.loop b) :: k => .code b :: .inLoop b :: k
 | .inLoop b :: k => .code b :: .inLoop b :: k
 | l => l
def unroll (c : Cf) : Cf := ⟨unrollT c.todo, none, c.fr, c.bl⟩
def idle (c : Cf) : Bool := match c.rg with
 | none => true
 | _ => false
theorem run_unroll {c : Cf} (hi : idle c = true) (h : Run C G (unroll c)) : Run C G c := by
 intro hs
 have hrg : c.rg = none := by
  unfold idle at hi
  split at hi
  ·assumption
  ·cases hi
 have h1 := h hs
 simp only [unroll] at h1
 rw [hrg]
 generalize c.todo = l at h1
 intro r a w hst
 have h2 := h1 r a w hst
 unfold unrollT at h2
 split at h2
 ·exact Goes.step (fun cs => step_loop) h2
 ·exact Goes.step (fun cs => step_inLoop) h2
 ·exact h2
end
end Go.Ev
end
section
namespace Go.Proofs.YthoedmikfpbfnaaGreat
open Go Go.Ev
abbrev svZ : SV := .val (.tuple #[])
abbrev svT : SV := .val (.bool true)
abbrev svF : SV := .val (.bool false)
abbrev vI64 (x : Int) : Value := .int .i64 x
end Go.Proofs.YthoedmikfpbfnaaGreat
end
section
namespace Go.Proofs.YthoedmikfpbfnaaGreat

def val : List Int → Int
 | [] => 0
 | d :: ds => d + 65536 * val ds

def dg (xs : List Int) (i : Nat) : Int := xs.getD i 0
theorem dg_eq (xs : List Int) (i : Nat) : dg xs i = xs.getD i 0 := rfl
theorem dg_past (xs : List Int) (i : Nat) (h : xs.length ≤ i) : dg xs i = 0 := by
 have e : xs[i]? = none := List.getElem?_eq_none h
 rw [dg_eq, List.getD, e]; rfl

theorem dg_take (xs : List Int) (n i : Nat) (h : i < n) : dg (xs.take n) i = dg xs i := by
 simp only [dg_eq, List.getD, List.getElem?_take, if_pos h]

def Digs (ds : List Int) : Prop := ∀ i : Nat, 0 ≤ dg ds i ∧ dg ds i < 65536

def B (n : Nat) : Int := 65536 ^ n

theorem B_zero : B 0 = 1 := rfl
theorem B_succ (n : Nat) : B (n + 1) = 65536 * B n := by unfold B; rw [Int.pow_succ]; omega
theorem B_pos (n : Nat) : 1 ≤ B n := by
 induction n with
 | zero => decide
 | succ n ih => rw [B_succ]; omega
theorem B_add (m n : Nat) : B (m + n) = B m * B n := by
 induction m with
 | zero => rw [Nat.zero_add, B_zero]; omega
 | succ m ih => rw [Nat.succ_add, B_succ, B_succ, ih]; grind
theorem B_le {m n : Nat} (h : m ≤ n) : B m ≤ B n := by
  induction n with
  | zero => have : m = 0 := by omega
            subst this; exact Int.le_refl _
  | succ n ih =>
    by_cases e : m = n + 1
    · subst e; exact Int.le_refl _
    · have := ih (by omega); have := B_pos n; rw [B_succ]; omega
def pre (ds : List Int) (i : Nat) : Int := val (ds.take i)

theorem pre_zero (ds : List Int) : pre ds 0 = 0 := by simp [pre, val]
theorem pre_succ (ds : List Int) (i : Nat) : pre ds (i + 1) = pre ds i + B i * dg ds i := by
 unfold pre
 simp only [dg_eq]
 induction ds generalizing i with
 | nil => simp [val]
 | cons d ds ih =>
  cases i with
  | zero => simp [val, B_zero]
  | succ i =>
   have := ih i
   simp only [List.take_succ_cons, val, List.getD_cons_succ, this, B_succ]
   grind
theorem pre_all (ds : List Int) (i : Nat) (h : ds.length ≤ i) : pre ds i = val ds := by
 unfold pre; rw [List.take_of_length_le h]
theorem pre_len (ds : List Int) : pre ds ds.length = val ds := pre_all ds _ (Nat.le_refl _)

theorem val_append (xs ys : List Int) : val (xs ++ ys) = val xs + B xs.length * val ys := by
 induction xs with
 | nil => simp [val, B_zero]
 | cons x xs ih => simp only [List.cons_append, val, ih, List.length_cons, B_succ]; grind
theorem val_snoc (xs : List Int) (y : Int) : val (xs ++ [y]) = val xs + B xs.length * y := by
 rw [val_append]; simp [val]
theorem val_take_drop (xs : List Int) (n : Nat) (h : n ≤ xs.length) : val xs = pre xs n + B n * val (xs.drop n) := by
 have := val_append (xs.take n) (xs.drop n)
 rw [List.take_append_drop, List.length_take, Nat.min_eq_left h] at this
 exact this

theorem Digs.nil : Digs [] := fun i => by simp [dg_eq]
theorem Digs.snoc {xs : List Int} {y : Int} (h : Digs xs) (h0 : 0 ≤ y) (h1 : y < 65536) : Digs (xs ++ [y]) := fun i => by
 simp only [Digs, dg_eq] at *
 rcases Nat.lt_trichotomy i xs.length with hi | hi | hi
 ·have := h i; simpa [List.getD, List.getElem?_append_left hi] using this
 ·subst hi; simp [List.getD]; exact ⟨h0, h1⟩
 ·have e : (xs ++ [y])[i]? = none := List.getElem?_eq_none (by simp; omega)
  simp [List.getD, e]
theorem Digs.take {xs : List Int} (h : Digs xs) (n : Nat) : Digs (xs.take n) := fun i => by
 simp only [Digs, dg_eq] at *
 by_cases hi : i < n
 ·have := h i; simpa [List.getD, List.getElem?_take, hi] using this
 ·simp [List.getD, List.getElem?_take, hi]
theorem Digs.drop {xs : List Int} (h : Digs xs) (n : Nat) : Digs (xs.drop n) := fun i => by
 simp only [Digs, dg_eq] at *
 have := h (n + i); simpa [List.getD, List.getElem?_drop] using this
theorem Digs.set {xs : List Int} (h : Digs xs) (k : Nat) {y : Int} (h0 : 0 ≤ y) (h1 : y < 65536) : Digs (xs.set k y) := fun i => by
 simp only [Digs, dg_eq] at *
 have := h i
 by_cases hk : k = i
 ·subst hk
  by_cases hl : k < xs.length
  ·simp [List.getD, hl]; exact ⟨h0, h1⟩
  ·simp [List.getD, hl]
 ·simpa [List.getD, List.getElem?_set_ne hk] using this
theorem Digs.tail {x : Int} {xs : List Int} (h : Digs (x :: xs)) : Digs xs := fun i => by simpa [dg_eq] using h (i + 1)
theorem Digs.zeros (n : Nat) : Digs (List.replicate n 0) := fun i => by
 simp only [dg_eq, List.getD, List.getElem?_replicate]
 split <;> simp

theorem val_nonneg {xs : List Int} (h : Digs xs) : 0 ≤ val xs := by
 induction xs with
 | nil => simp [val]
 | cons x xs ih => have := ih h.tail; have h0 := (h 0).1; simp [dg_eq] at h0; simp only [val]; omega
theorem val_lt {xs : List Int} (h : Digs xs) : val xs < B xs.length := by
 induction xs with
 | nil => simp [val, B_zero]
 | cons x xs ih => have := ih h.tail; have h0 := (h 0).2; simp [dg_eq] at h0; simp only [val, List.length_cons, B_succ]; omega
theorem pre_nonneg {xs : List Int} (h : Digs xs) (i : Nat) : 0 ≤ pre xs i := val_nonneg (h.take i)
theorem pre_lt {xs : List Int} (h : Digs xs) (i : Nat) : pre xs i < B i :=
 Int.lt_of_lt_of_le (val_lt (h.take i)) (B_le (by simp; omega))
theorem val_zeros (n : Nat) : val (List.replicate n 0) = 0 := by
 induction n with
 | zero => rfl
 | succ n ih => simp [List.replicate_succ, val, ih]

theorem val_set (xs : List Int) (k : Nat) (y : Int) (h : k < xs.length) : val (xs.set k y) = val xs + B k * (y - dg xs k) := by
 simp only [dg_eq]
 induction xs generalizing k with
 | nil => simp at h
 | cons x xs ih =>
  cases k with
  | zero => simp [val, B_zero]; omega
  | succ k =>
   have := ih k (by simpa using h)
   simp only [List.set_cons_succ, val, this, List.getD_cons_succ, B_succ]
   grind

def Tidy (ds : List Int) : Prop := ds.length ≠ 0 → dg ds (ds.length - 1) ≠ 0
theorem Tidy.nil : Tidy [] := fun h => absurd rfl h

theorem tidy_ge {ds : List Int} (h : Digs ds) (t : Tidy ds) (hn : ds.length ≠ 0) : B (ds.length - 1) ≤ val ds := by
 have h1 := t hn
 have h2 := pre_succ ds (ds.length - 1)
 rw [show ds.length - 1 + 1 = ds.length from by omega, pre_len] at h2
 have h3 := pre_nonneg h (ds.length - 1)
 have h4 := (h (ds.length - 1)).1
 have h5 := B_pos (ds.length - 1)
 have h6 : B (ds.length - 1) * 1 ≤ B (ds.length - 1) * dg ds (ds.length - 1) := Int.mul_le_mul_of_nonneg_left (by omega) (by omega)
 omega
theorem tidy_zero {ds : List Int} (h : Digs ds) (t : Tidy ds) : val ds = 0 ↔ ds = [] := by
 constructor
 ·intro hv
  by_cases hn : ds.length = 0
  ·exact List.length_eq_zero_iff.1 hn
  ·have := tidy_ge h t hn; have := B_pos (ds.length - 1); omega
 ·intro e; subst e; rfl
theorem tidy_len {ds : List Int} (h : Digs ds) (t : Tidy ds) (k : Nat) (hv : val ds < B k) : ds.length ≤ k := by
 by_cases hn : ds.length = 0
 ·omega
 ·have h1 := tidy_ge h t hn
  by_cases hk : ds.length ≤ k
  ·exact hk
  ·have := B_le (m := k) (n := ds.length - 1) (by omega); omega
theorem less_len {xs ys : List Int} (hx : Digs xs) (hy : Digs ys) (ty : Tidy ys) (h : xs.length < ys.length) : val xs < val ys := by
 have h1 := tidy_ge hy ty (by omega)
 have h2 := val_lt hx
 have h3 := B_le (m := xs.length) (n := ys.length - 1) (by omega)
 omega
theorem less_at {xs ys : List Int} (hx : Digs xs) (hy : Digs ys) (i : Nat) (hl : xs.length = ys.length) (hi : i < xs.length)
  (hd : xs.drop (i + 1) = ys.drop (i + 1)) (h : dg xs i < dg ys i) : val xs < val ys := by
 have h1 := val_take_drop xs (i + 1) (by omega)
 have h2 := val_take_drop ys (i + 1) (by omega)
 rw [pre_succ] at h1 h2
 rw [hd] at h1
 have h3 := pre_lt hx i
 have h4 := pre_nonneg hy i
 have h5 : B i * (dg xs i + 1) ≤ B i * dg ys i := Int.mul_le_mul_of_nonneg_left (by omega) (by have := B_pos i; omega)
 have h6 : B i * (dg xs i + 1) = B i * dg xs i + B i := by grind
 omega

theorem carry_step (V T s : Int) (zs : List Int) (k : Nat) (hk : zs.length = k) (h : V = val zs + B k * T) :
  V + B k * (s - T) = val (zs ++ [s % 65536]) + B (k + 1) * (s / 65536) := by
 rw [val_snoc, hk, B_succ, h]
 have e : s = s % 65536 + 65536 * (s / 65536) := by omega
 generalize s % 65536 = r at *
 generalize s / 65536 = q at *
 subst e
 grind
theorem plus_step (xs ys zs : List Int) (k : Nat) (c : Int) (hk : zs.length = k) (h : val zs + B k * c = pre xs k + pre ys k) :
  val (zs ++ [(dg xs k + dg ys k + c) % 65536]) + B (k + 1) * ((dg xs k + dg ys k + c) / 65536) = pre xs (k + 1) + pre ys (k + 1) := by
 have h1 := carry_step (val zs + B k * c) c (dg xs k + dg ys k + c) zs k hk rfl
 rw [← h1, h, pre_succ, pre_succ]
 grind
theorem digit_mod (s : Int) : 0 ≤ s % 65536 ∧ s % 65536 < 65536 := by omega

theorem minus_step (xs ys zs : List Int) (k : Nat) (c t : Int) (hk : zs.length = k) (h : val zs - B k * c = pre xs k - pre ys k) :
  val (zs ++ [dg xs k - dg ys k - c + 65536 * t]) - B (k + 1) * t = pre xs (k + 1) - pre ys (k + 1) := by
 rw [val_snoc, hk, B_succ, pre_succ, pre_succ]
 grind
theorem minus_end {xs ys zs : List Int} (dz : Digs zs) {k : Nat} {c : Int} (hk : zs.length = k) (hx : xs.length ≤ k) (hy : ys.length ≤ k) (hc0 : 0 ≤ c) (hle : val ys ≤ val xs)
  (h : val zs - B k * c = pre xs k - pre ys k) (hc1 : c ≤ 1) : val zs = val xs - val ys := by
 rw [pre_all xs k hx, pre_all ys k hy] at h
 have h1 := val_lt dz
 rw [hk] at h1
 have : c = 0 ∨ c = 1 := by omega
 rcases this with rfl | rfl <;> omega

def cmpI (a b : Int) : Int := if a < b then -1 else if a = b then 0 else 1
theorem cmpI_lt {a b : Int} (h : a < b) : cmpI a b = -1 := by simp [cmpI, h]
theorem cmpI_gt {a b : Int} (h : b < a) : cmpI a b = 1 := by
 unfold cmpI; rw [if_neg (by omega), if_neg (by omega)]
theorem cmpI_eq {a b : Int} (h : a = b) : cmpI a b = 0 := by subst h; simp [cmpI]
theorem cmpI_ge (a b : Int) : 0 ≤ cmpI a b ↔ b ≤ a := by unfold cmpI; split <;> (try split) <;> omega

theorem drop_step (xs ys : List Int) (i : Nat) (hl : xs.length = ys.length) (hi : i < xs.length) (hd : xs.drop (i + 1) = ys.drop (i + 1)) (h : dg xs i = dg ys i) : xs.drop i = ys.drop i := by
 have hy : i < ys.length := by omega
 rw [List.drop_eq_getElem_cons hi, List.drop_eq_getElem_cons hy, hd]
 simp only [dg_eq, List.getD, List.getElem?_eq_getElem hi, List.getElem?_eq_getElem hy, Option.getD_some] at h
 rw [h]

theorem pre_strip (xs : List Int) (n : Nat) (h : dg xs n = 0) : pre xs (n + 1) = pre xs n := by rw [pre_succ, h]; omega

theorem ofu_step (n q : Int) (zs : List Int) (k : Nat) (hk : zs.length = k) (h : val zs + B k * q = n) : val (zs ++ [q % 65536]) + B (k + 1) * (q / 65536) = n := by
 have := carry_step (val zs + B k * q) q q zs k hk rfl
 rw [← this, ← h]
 grind
theorem ofu_end {zs : List Int} (dz : Digs zs) {n q : Int} (h : val zs + B 4 * q = n) (h1 : n < 18446744073709551616) (hq : 0 ≤ q) : val zs = n := by
 have h0 := val_nonneg dz
 have e : B 4 = 18446744073709551616 := by decide
 rw [e] at h
 omega

def sgn (neg : Bool) (m : Int) : Int := if neg then -m else m

def Fit (n : Int) : Prop := (n.natAbs : Int) < B 7000
theorem Fit.neg {n : Int} (h : Fit n) : Fit (-n) := by unfold Fit at *; rw [Int.natAbs_neg]; exact h
theorem Fit.abs {n : Int} (h : Fit n) : Fit n.natAbs := by unfold Fit at *; rw [Int.natAbs_natCast]; exact h
theorem B_two (n : Nat) : B n = ((2 ^ (16 * n) : Nat) : Int) := by
 induction n with
 | zero => rfl
 | succ n ih =>
  rw [B_succ, ih, show 16 * (n + 1) = 16 * n + 16 from by omega, Nat.pow_add]
  simp only [Int.natCast_mul]
  generalize ((2 ^ (16 * n) : Nat) : Int) = t
  have : ((2 ^ 16 : Nat) : Int) = 65536 := by decide
  rw [this]; omega

def Bits (k : Nat) (n : Int) : Prop := n.natAbs < 2 ^ k
theorem Bits.mono {k l : Nat} {n : Int} (h : Bits k n) (hkl : k ≤ l) : Bits l n := Nat.lt_of_lt_of_le h (Nat.pow_le_pow_right (by omega) hkl)
theorem Bits.neg {k : Nat} {n : Int} (h : Bits k n) : Bits k (-n) := by unfold Bits at *; rw [Int.natAbs_neg]; exact h
theorem Bits.abs {k : Nat} {n : Int} (h : Bits k n) : Bits k n.natAbs := by unfold Bits at *; rw [Int.natAbs_natCast]; exact h
theorem Bits.add {k : Nat} {m n : Int} (h : Bits k m) (h' : Bits k n) : Bits (k + 1) (m + n) := by
 unfold Bits at *; have := Int.natAbs_add_le m n; rw [Nat.pow_succ]; omega
theorem Bits.sub {k : Nat} {m n : Int} (h : Bits k m) (h' : Bits k n) : Bits (k + 1) (m - n) := by
 rw [Int.sub_eq_add_neg]; exact h.add h'.neg
theorem Bits.mul {k l : Nat} {m n : Int} (h : Bits k m) (h' : Bits l n) : Bits (k + l) (m * n) := by
 unfold Bits at *; rw [Int.natAbs_mul, Nat.pow_add]
 exact Nat.mul_lt_mul'' h h'
theorem Bits.lt_B {k : Nat} {n : Int} (h : Bits k n) (K : Nat) (hk : k ≤ 16 * K) : (n.natAbs : Int) < B K := by
 rw [B_two]
 exact Int.ofNat_lt.2 (Nat.lt_of_lt_of_le h (Nat.pow_le_pow_right (by omega) hk))
theorem Bits.fit {k : Nat} {n : Int} (h : Bits k n) (hk : k ≤ 100000) : Fit n := h.lt_B 7000 (by omega)
theorem Bits.le {k : Nat} {m n : Int} (h : Bits k m) (h' : n.natAbs ≤ m.natAbs) : Bits k n := Nat.lt_of_le_of_lt h' h
theorem Bits.pow (k : Nat) : Bits (k + 1) (2 ^ k) := by
 unfold Bits; rw [Int.natAbs_pow]; exact Nat.pow_lt_pow_right (by decide) (Nat.lt_succ_self k)
theorem mul_step {xs ys zs : List Int} {i k : Nat} {c : Int} (h : val zs + B (i + k) * c = pre xs i * val ys + dg xs i * B i * pre ys k) (hl : i + k < zs.length) :
  val (zs.set (i + k) ((dg zs (i + k) + dg xs i * dg ys k + c) % 65536)) + B (i + (k + 1)) * ((dg zs (i + k) + dg xs i * dg ys k + c) / 65536) = pre xs i * val ys + dg xs i * B i * pre ys (k + 1) := by
 rw [val_set zs (i + k) _ hl, pre_succ, show i + (k + 1) = (i + k) + 1 from rfl, B_succ]
 have e : dg zs (i + k) + dg xs i * dg ys k + c = (dg zs (i + k) + dg xs i * dg ys k + c) % 65536 + 65536 * ((dg zs (i + k) + dg xs i * dg ys k + c) / 65536) := by omega
 generalize (dg zs (i + k) + dg xs i * dg ys k + c) % 65536 = r at *
 generalize (dg zs (i + k) + dg xs i * dg ys k + c) / 65536 = q at *
 have hB := B_add i k
 generalize dg zs (i + k) = z at *
 generalize B (i + k) = b at *
 generalize B i = bi at *
 generalize B k = bk at *
 subst hB
 grind
theorem mul_bound {z x y c : Int} (hz : 0 ≤ z ∧ z < 65536) (hx : 0 ≤ x ∧ x < 65536) (hy : 0 ≤ y ∧ y < 65536) (hc : 0 ≤ c ∧ c < 65536) :
  0 ≤ x * y ∧ x * y ≤ 4294836225 ∧ 0 ≤ (z + x * y + c) / 65536 ∧ (z + x * y + c) / 65536 < 65536 := by
 have h1 : 0 ≤ x * y := Int.mul_nonneg hx.1 hy.1
 have h2 : x * y ≤ 65535 * 65535 := Int.mul_le_mul (by omega) (by omega) hy.1 (by omega)
 omega
theorem mul_exit {xs ys zs : List Int} {i k : Nat} {c : Int} (h : val zs + B (i + k) * c = pre xs i * val ys + dg xs i * B i * pre ys k) (hk : ys.length ≤ k) (hc : c = 0) : val zs = pre xs (i + 1) * val ys := by
 subst hc
 rw [pre_all ys k hk] at h
 rw [pre_succ]
 grind
theorem mul_idx {xs ys zs : List Int} (dx : Digs xs) (dy : Digs ys) (dz : Digs zs) {i k : Nat} {c : Int} (h : val zs + B (i + k) * c = pre xs i * val ys + dg xs i * B i * pre ys k) (hc : 0 < c) : k ≤ ys.length := by
 by_cases hk : k ≤ ys.length
 ·exact hk
 ·exfalso
  rw [pre_all ys k (by omega)] at h
  have h1 := pre_succ xs i
  have h2 := pre_lt dx (i + 1)
  have h3 := pre_nonneg dx (i + 1)
  have h4 := val_lt dy
  have h5 := val_nonneg dy
  have h6 := val_nonneg dz
  have h7 := B_le (m := i + 1 + ys.length) (n := i + k) (by omega)
  rw [B_add] at h7
  have h8 : pre xs (i + 1) * val ys ≤ (B (i + 1) - 1) * (B ys.length - 1) := Int.mul_le_mul (by omega) (by omega) h5 (by omega)
  have h9 : B (i + k) * 1 ≤ B (i + k) * c := Int.mul_le_mul_of_nonneg_left (by omega) (by have := B_pos (i + k); omega)
  have h10 : pre xs (i + 1) * val ys = pre xs i * val ys + dg xs i * B i * val ys := by rw [h1]; grind
  have h11 : (B (i + 1) - 1) * (B ys.length - 1) = B (i + 1) * B ys.length - B (i + 1) - B ys.length + 1 := by grind
  have := B_pos (i + 1)
  have := B_pos ys.length
  omega
theorem mul_start {xs ys zs : List Int} {i : Nat} (h : val zs = pre xs i * val ys) : val zs + B (i + 0) * 0 = pre xs i * val ys + dg xs i * B i * pre ys 0 := by
 rw [pre_zero, h]; omega
theorem sgn_mul {na nb : Bool} {m n z x y : Int} (hz : z = x * y) (hx : x = m.natAbs) (hy : y = n.natAbs) (ha : na = decide (m < 0)) (hb : nb = decide (n < 0)) : sgn (na != nb) z = m * n := by
 subst hz hx hy ha hb
 by_cases h1 : m < 0 <;> by_cases h2 : n < 0 <;> simp only [sgn, h1, h2, decide_true, decide_false, bne_self_eq_false, Bool.true_bne, Bool.false_bne, Bool.not_false, if_true, Bool.false_eq_true, if_false]
 ·rw [show ((m.natAbs : Nat) : Int) = -m from by omega, show ((n.natAbs : Nat) : Int) = -n from by omega]; grind
 ·rw [show ((m.natAbs : Nat) : Int) = -m from by omega, show ((n.natAbs : Nat) : Int) = n from by omega]; grind
 ·rw [show ((m.natAbs : Nat) : Int) = m from by omega, show ((n.natAbs : Nat) : Int) = -n from by omega]; grind
 ·rw [show ((m.natAbs : Nat) : Int) = m from by omega, show ((n.natAbs : Nat) : Int) = n from by omega]

theorem pow_succ2 (k : Nat) : (2 : Int) ^ (k + 1) = 2 ^ k + 2 ^ k := by rw [Int.pow_succ]; omega
attribute [irreducible] B

end Go.Proofs.YthoedmikfpbfnaaGreat

namespace Go.Proofs.YthoedmikfpbfnaaGreat

def shr (m : Int) (t : Nat) : Int := m / ((2 ^ t : Nat) : Int)
theorem pow2_pos (t : Nat) : (0 : Int) < ((2 ^ t : Nat) : Int) := Int.ofNat_lt.2 (Nat.two_pow_pos t)
theorem shr_pow (m : Int) (t : Nat) : shr m t = m / 2 ^ t := by unfold shr; rw [Int.natCast_pow]; rfl
theorem shr_zero (m : Int) : shr m 0 = m := by simp [shr]
theorem shr_nonneg {m : Int} (h : 0 ≤ m) (t : Nat) : 0 ≤ shr m t := Int.ediv_nonneg h (Int.le_of_lt (pow2_pos t))
theorem shr_succ (m : Int) (t : Nat) : shr m (t + 1) = shr m t / 2 := by
 unfold shr
 rw [Nat.pow_succ, Int.natCast_mul, Int.ediv_ediv_of_nonneg (Int.le_of_lt (pow2_pos t))]; rfl
theorem shr_add (m : Int) (s t : Nat) : shr m (s + t) = shr (shr m s) t := by
 unfold shr
 rw [Nat.pow_add, Int.natCast_mul, Int.ediv_ediv_of_nonneg (Int.le_of_lt (pow2_pos s))]
theorem shr_le {m : Int} (h : 0 ≤ m) (t : Nat) : shr m t ≤ m := Int.ediv_le_self _ h
theorem shr_top {m : Int} (h : 0 ≤ m) (t : Nat) (h1 : m < ((2 ^ t : Nat) : Int)) : shr m t = 0 := Int.ediv_eq_zero_of_lt h h1
theorem dg_val {ds : List Int} (h : Digs ds) (j : Nat) : dg ds j = shr (val ds) (16 * j) % 65536 := by
 by_cases hj : j < ds.length
 ·have h1 := val_take_drop ds (j + 1) (by omega)
  rw [pre_succ, B_succ] at h1
  have h2 := pre_nonneg h j
  have h3 := pre_lt h j
  have hd := h j
  unfold shr
  rw [← B_two j]
  have hB := B_pos j
  have e : val ds = pre ds j + B j * (dg ds j + 65536 * val (ds.drop (j + 1))) := by rw [h1]; grind
  rw [e, Int.add_mul_ediv_left _ _ (by omega), Int.ediv_eq_zero_of_lt h2 h3]
  omega
 ·rw [dg_past ds j (by omega)]
  have h1 := val_lt h
  have h2 := val_nonneg h
  have h3 := B_le (m := ds.length) (n := j) (by omega)
  rw [shr_top h2 (16 * j) (by rw [← B_two]; omega)]; rfl
theorem mod_shr (x : Int) (s : Nat) (hs : s < 16) : shr (x % 65536) s % 2 = shr x s % 2 := by
 unfold shr
 have : s = 0 ∨ s = 1 ∨ s = 2 ∨ s = 3 ∨ s = 4 ∨ s = 5 ∨ s = 6 ∨ s = 7 ∨ s = 8 ∨ s = 9 ∨ s = 10 ∨ s = 11 ∨ s = 12 ∨ s = 13 ∨ s = 14 ∨ s = 15 := by omega
 rcases this with rfl | rfl | rfl | rfl | rfl | rfl | rfl | rfl | rfl | rfl | rfl | rfl | rfl | rfl | rfl | rfl <;> simp only [Nat.reducePow, Int.cast_ofNat_Int] <;> omega
theorem bit_val {ds : List Int} (h : Digs ds) (t : Nat) : shr (val ds) t = 2 * shr (val ds) (t + 1) + shr (dg ds (t / 16)) (t % 16) % 2 := by
 rw [dg_val h, mod_shr _ _ (Nat.mod_lt _ (by decide)), ← shr_add, show 16 * (t / 16) + t % 16 = t from by omega, shr_succ]
 omega
theorem long_more {M n b : Int} (hn : 0 < n) (hb : 0 ≤ b) (hb2 : b < 2) (h : n ≤ M % n + M % n + b) : (2 * M + b) / n = M / n + M / n + 1 ∧ (2 * M + b) % n = M % n + M % n + b - n := by
 have h1 := Int.emod_nonneg M (show n ≠ 0 by omega)
 have h2 := Int.emod_lt_of_pos M hn
 have h3 := Int.mul_ediv_add_emod M n
 have e : 2 * M + b = n * (M / n + M / n + 1) + (M % n + M % n + b - n) := by grind
 have := Int.ediv_emod_unique (a := 2 * M + b) (b := n) (r := M % n + M % n + b - n) (q := M / n + M / n + 1) hn
 exact this.2 ⟨by omega, by omega, by omega⟩
theorem long_less {M n b : Int} (hn : 0 < n) (hb : 0 ≤ b) (h : M % n + M % n + b < n) : (2 * M + b) / n = M / n + M / n ∧ (2 * M + b) % n = M % n + M % n + b := by
 have h1 := Int.emod_nonneg M (show n ≠ 0 by omega)
 have h3 := Int.mul_ediv_add_emod M n
 have e : 2 * M + b = n * (M / n + M / n) + (M % n + M % n + b) := by grind
 have := Int.ediv_emod_unique (a := 2 * M + b) (b := n) (r := M % n + M % n + b) (q := M / n + M / n) hn
 exact this.2 ⟨by omega, by omega, by omega⟩
theorem shr_bits {K : Nat} {m : Int} (h : Bits K m) (h0 : 0 ≤ m) (t : Nat) : Bits K (shr m t) := h.le (by have := shr_nonneg h0 t; have := shr_le h0 t; omega)
theorem div_bits {K : Nat} {m n : Int} (h : Bits K m) (h0 : 0 ≤ m) (h1 : 0 < n) : Bits K (m / n) := h.le (by have := Int.ediv_nonneg h0 (Int.le_of_lt h1); have := Int.ediv_le_self n h0; omega)
theorem mod_bits {K : Nat} {m n : Int} (h : Bits K n) (h1 : 0 < n) : Bits K (m % n) := h.le (by have := Int.emod_nonneg m (show n ≠ 0 by omega); have := Int.emod_lt_of_pos m h1; omega)

theorem fdiv_fmod_pos {a b q r : Int} (hb : 0 < b) (h : a = b * q + r) (h0 : 0 ≤ r) (h1 : r < b) : a.fdiv b = q ∧ a.fmod b = r := by
 have e : a / b = q ∧ a % b = r := (Int.ediv_emod_unique hb).2 ⟨by omega, h0, h1⟩
 rw [Int.fdiv_eq_ediv_of_nonneg _ (by omega), Int.fmod_eq_emod_of_nonneg _ (by omega)]
 exact e
theorem fdiv_fmod_neg {a b q r : Int} (hb : b < 0) (h : a = b * q + r) (h0 : r ≤ 0) (h1 : b < r) : a.fdiv b = q ∧ a.fmod b = r := by
 have e := fdiv_fmod_pos (a := -a) (b := -b) (q := q) (r := -r) (by omega) (by rw [h]; grind) (by omega) (by omega)
 have e1 : (-a).fdiv (-b) = a.fdiv b := Int.neg_fdiv_neg a b
 have h2 := Int.mul_fdiv_add_fmod a b
 rw [e1] at e
 refine ⟨e.1, ?_⟩
 rw [e.1] at h2
 omega
theorem div_parts (m n : Int) (hn : n ≠ 0) : (n.natAbs : Int) * ((m.natAbs : Int) / n.natAbs) + (m.natAbs : Int) % n.natAbs = m.natAbs ∧ 0 ≤ (m.natAbs : Int) % n.natAbs ∧ (m.natAbs : Int) % n.natAbs < n.natAbs ∧ 0 ≤ (m.natAbs : Int) / n.natAbs ∧ (m.natAbs : Int) / n.natAbs ≤ m.natAbs :=
 ⟨Int.mul_ediv_add_emod _ _, Int.emod_nonneg _ (by omega), Int.emod_lt_of_pos _ (by omega), Int.ediv_nonneg (by omega) (by omega), Int.ediv_le_self _ (by omega)⟩
theorem div_A {m n : Int} (hm : ¬ m < 0) (hn : 0 < n) : m.fdiv n = (m.natAbs : Int) / n.natAbs ∧ m.fmod n = (m.natAbs : Int) % n.natAbs := by
 obtain ⟨h1, h2, h3, -, -⟩ := div_parts m n (by omega)
 have e1 : (m.natAbs : Int) = m := by omega
 have e2 : (n.natAbs : Int) = n := by omega
 rw [e1, e2] at h1 h2 h3 ⊢
 exact fdiv_fmod_pos hn (by omega) h2 h3
theorem div_B {m n : Int} (hm : m < 0) (hn : n < 0) : m.fdiv n = (m.natAbs : Int) / n.natAbs ∧ m.fmod n = -((m.natAbs : Int) % n.natAbs) := by
 obtain ⟨h1, h2, h3, -, -⟩ := div_parts m n (by omega)
 have e1 : (m.natAbs : Int) = -m := by omega
 have e2 : (n.natAbs : Int) = -n := by omega
 rw [e1, e2] at h1 h2 h3 ⊢
 exact fdiv_fmod_neg hn (by generalize (-m) / (-n) = q at *; generalize (-m) % (-n) = r at *; grind) (by omega) (by omega)
theorem div_C0 {m n : Int} (hm : ¬ m < 0) (hn : n < 0) (h0 : (m.natAbs : Int) % n.natAbs = 0) : m.fdiv n = -((m.natAbs : Int) / n.natAbs) ∧ m.fmod n = (m.natAbs : Int) % n.natAbs := by
 obtain ⟨h1, h2, h3, -, -⟩ := div_parts m n (by omega)
 have e1 : (m.natAbs : Int) = m := by omega
 have e2 : (n.natAbs : Int) = -n := by omega
 rw [e1, e2] at h0 h1 h2 h3 ⊢
 exact fdiv_fmod_neg hn (by generalize m / (-n) = q at *; generalize m % (-n) = r at *; grind) (by omega) (by omega)
theorem div_C1 {m n : Int} (hm : ¬ m < 0) (hn : n < 0) (h0 : (m.natAbs : Int) % n.natAbs ≠ 0) : m.fdiv n = -((m.natAbs : Int) / n.natAbs) - 1 ∧ m.fmod n = (m.natAbs : Int) % n.natAbs + n := by
 obtain ⟨h1, h2, h3, -, -⟩ := div_parts m n (by omega)
 have e1 : (m.natAbs : Int) = m := by omega
 have e2 : (n.natAbs : Int) = -n := by omega
 rw [e1, e2] at h0 h1 h2 h3 ⊢
 exact fdiv_fmod_neg hn (by generalize m / (-n) = q at *; generalize m % (-n) = r at *; grind) (by omega) (by omega)
theorem div_D0 {m n : Int} (hm : m < 0) (hn : 0 < n) (h0 : (m.natAbs : Int) % n.natAbs = 0) : m.fdiv n = -((m.natAbs : Int) / n.natAbs) ∧ m.fmod n = -((m.natAbs : Int) % n.natAbs) := by
 obtain ⟨h1, h2, h3, -, -⟩ := div_parts m n (by omega)
 have e1 : (m.natAbs : Int) = -m := by omega
 have e2 : (n.natAbs : Int) = n := by omega
 rw [e1, e2] at h0 h1 h2 h3 ⊢
 exact fdiv_fmod_pos hn (by generalize (-m) / n = q at *; generalize (-m) % n = r at *; grind) (by omega) (by omega)
theorem div_D1 {m n : Int} (hm : m < 0) (hn : 0 < n) (h0 : (m.natAbs : Int) % n.natAbs ≠ 0) : m.fdiv n = -((m.natAbs : Int) / n.natAbs) - 1 ∧ m.fmod n = -((m.natAbs : Int) % n.natAbs) + n := by
 obtain ⟨h1, h2, h3, -, -⟩ := div_parts m n (by omega)
 have e1 : (m.natAbs : Int) = -m := by omega
 have e2 : (n.natAbs : Int) = n := by omega
 rw [e1, e2] at h0 h1 h2 h3 ⊢
 exact fdiv_fmod_pos hn (by generalize (-m) / n = q at *; generalize (-m) % n = r at *; grind) (by omega) (by omega)

end Go.Proofs.YthoedmikfpbfnaaGreat

namespace Go.Proofs.YthoedmikfpbfnaaGreat
open Go Go.RowKit

def Kind (w : World) (k : Nat) (t : TypeId) : Prop := ∃ cs fr, w.heap[k]? = some (.cells cs t fr)
theorem Kind.lt {w : World} {k : Nat} {t : TypeId} (h : Kind w k t) : k < w.heap.size := by
 obtain ⟨cs, fr, h⟩ := h; exact (Array.getElem?_eq_some_iff.1 h).1
theorem Kind.below {w w' : World} {k : Nat} {t : TypeId} (h : Kind w k t) (hb : Below w.heap.size w w') : Kind w' k t := by
 have hl := h.lt
 obtain ⟨cs, fr, h⟩ := h; exact ⟨cs, fr, (hb.block k hl).trans h⟩
theorem Kind.setCell {w : World} {k : Nat} {t : TypeId} (h : Kind w k t) (b o : Nat) (u : Value) : Kind (w.setCell ⟨b, o, none⟩ u) k t := by
 obtain ⟨cs, fr, h⟩ := h
 by_cases e : k = b
 ·subst e; exact ⟨_, fr, Joins.block_setCell h u⟩
 ·exact ⟨cs, fr, (heap_setCell_other w ⟨b, o, none⟩ k u e).trans h⟩
theorem Kind.alloc {w : World} {k : Nat} {t : TypeId} (h : Kind w k t) (o : Obj) : Kind (w.alloc o) k t := h.below ((Below.refl _ _).alloc (Nat.le_refl _) _)
theorem Kind.new (w : World) (cs : Array Value) (t : TypeId) : Kind (w.alloc (.cells cs t)) w.heap.size t := ⟨cs, (0, 0), heap_alloc_new w _⟩
theorem Kind.new' {w : World} {k : Nat} (cs : Array Value) (t : TypeId) (h : k = w.heap.size) : Kind (w.alloc (.cells cs t)) k t := by subst h; exact Kind.new w cs t
theorem Kind.ne {w : World} {k k' : Nat} {t t' : TypeId} (h : Kind w k t) (h' : Kind w k' t') (ht : t ≠ t') : k ≠ k' := by
 rintro rfl
 obtain ⟨cs, fr, h⟩ := h
 obtain ⟨cs', fr', h'⟩ := h'
 rw [h] at h'
 simp only [Option.some.injEq, Obj.cells.injEq] at h'
 exact ht h'.2.1

def Row (w : World) (v : Value) (xs : List Int) : Prop :=
 ∃ (a : Option Addr) (cap b off : Nat), v = .slice a xs.length cap ∧ xs.length ≤ cap ∧ (0 < xs.length → a = some ⟨b, off, none⟩ ∧ Kind w b 3) ∧
  ∀ i, i < xs.length → w.cell? ⟨b, off + i, none⟩ = some (.int .i64 (dg xs i))

theorem Row.nil (w : World) : Row w (.slice none 0 0) [] := ⟨none, 0, 0, 0, rfl, Nat.le_refl _, fun h => absurd h (by simp), fun i h => absurd h (by simp)⟩

theorem Row.below {w w' : World} {v : Value} {xs : List Int} (h : Row w v xs) (hb : Below w.heap.size w w') : Row w' v xs := by
 obtain ⟨a, cap, b, off, rfl, h1, h2, h3⟩ := h
 exact ⟨a, cap, b, off, rfl, h1, fun h => ⟨(h2 h).1, (h2 h).2.below hb⟩, fun i hi => (hb.cell (p := ⟨b, off + i, none⟩) (h2 (by omega)).2.lt).trans (h3 i hi)⟩

theorem Row.setCell {w : World} {v : Value} {xs : List Int} (h : Row w v xs) {k : Nat} {t : TypeId} (hk : Kind w k t) (ht : 3 ≠ t) (o : Nat) (u : Value) : Row (w.setCell ⟨k, o, none⟩ u) v xs := by
 obtain ⟨a, cap, b, off, rfl, h1, h2, h3⟩ := h
 refine ⟨a, cap, b, off, rfl, h1, fun h => ⟨(h2 h).1, (h2 h).2.setCell k o u⟩, fun i hi => ?_⟩
 have hne := (h2 (by omega)).2.ne hk ht
 exact (World.cell?_of_block (heap_setCell_other w ⟨k, o, none⟩ b u hne)).trans (h3 i hi)

theorem Row.take {w : World} {a : Option Addr} {len cap : Nat} {xs : List Int} (h : Row w (.slice a len cap) xs) (n : Nat) (hn : n ≤ len) : Row w (.slice a n cap) (xs.take n) := by
 obtain ⟨a', cap', b, off, e, h1, h2, h3⟩ := h
 simp only [Value.slice.injEq] at e
 obtain ⟨rfl, rfl, rfl⟩ := e
 have hl : (xs.take n).length = n := by simp; omega
 refine ⟨a, cap, b, off, by rw [hl], by omega, fun h => h2 (by omega), fun i hi => ?_⟩
 rw [h3 i (by omega), dg_take xs n i (by omega)]

theorem at_row {len cap b off : Nat} {a : Option Addr} (h : 0 < len → a = some ⟨b, off, none⟩) (i : Int) (h0 : 0 ≤ i) (h1 : i < len) (w : World) :
  (Instr.indexAt 35 (.slice a len cap) (.int .i64 i)).run Tryz.prog w = .ok (.pointer (some ⟨b, off + i.toNat, none⟩)) w := by
 obtain ⟨k, rfl⟩ := Int.eq_ofNat_of_zero_le h0
 rw [h (by omega)]
 have e : Tryz.prog.elem 35 = 3 := by kernel_rfl
 have s : ∀ w, (sizeOf 3).run Tryz.prog w = .ok 1 w := fun _ => by kernel_rfl
 rw [run_indexAt_slice w 35 ⟨b, off, none⟩ len cap .i64 k (by rw [e]; exact Tryz.underlying35), if_pos ⟨h0, h1⟩, e, s]
 simp [Result.andThen, Addr.add]

theorem bcell {W w1 : World} (hb : Below W.heap.size W w1) : (∀ b o, b < W.heap.size → w1.cell? ⟨b, o, none⟩ = W.cell? ⟨b, o, none⟩) ∧ (∀ b o, b < W.heap.size → w1.frozen? ⟨b, o, none⟩ = W.frozen? ⟨b, o, none⟩) :=
 ⟨fun b o h => hb.cell (p := ⟨b, o, none⟩) h, fun b o h => hb.frozen (p := ⟨b, o, none⟩) h⟩

theorem below1 (w : World) (a : Obj) : Below w.heap.size w (w.alloc a) := (Below.refl _ w).alloc (Nat.le_refl _) _
theorem below2 (w : World) (a b : Obj) : Below w.heap.size w ((w.alloc a).alloc b) := (below1 w a).alloc (by simp) _
theorem below3 (w : World) (a b c : Obj) : Below w.heap.size w (((w.alloc a).alloc b).alloc c) := (below2 w a b).alloc (by simp; omega) _
theorem below4 (w : World) (a b c d : Obj) : Below w.heap.size w ((((w.alloc a).alloc b).alloc c).alloc d) := (below3 w a b c).alloc (by simp; omega) _
theorem below5 (w : World) (a b c d e : Obj) : Below w.heap.size w (((((w.alloc a).alloc b).alloc c).alloc d).alloc e) := (below4 w a b c d).alloc (by simp; omega) _

def Box2 (w : World) (k : Nat) (u v : Value) (t : TypeId) : Prop := w.heap[k]? = some (.cells #[u, v] t (0, 0))
theorem Box2.kind {w : World} {k : Nat} {u v : Value} {t : TypeId} (h : Box2 w k u v t) : Kind w k t := ⟨_, _, h⟩
theorem Box2.below {w w' : World} {k : Nat} {u v : Value} {t : TypeId} (h : Box2 w k u v t) (hb : Below w.heap.size w w') : Box2 w' k u v t := (hb.block k h.kind.lt).trans h
theorem Box2.drew {w : World} {k : Nat} {u v : Value} {t : TypeId} (h : Box2 w k u v t) : Box2 w.drew k u v t := h
theorem Box2.drewN {w : World} {k : Nat} {u v : Value} {t : TypeId} (h : Box2 w k u v t) (n : Nat) : Box2 (w.drewN n) k u v t := h
theorem Box2.alloc {w : World} {k : Nat} {u v : Value} {t : TypeId} (h : Box2 w k u v t) (o : Obj) : Box2 (w.alloc o) k u v t := h.below (below1 w o)
theorem Box2.new {w : World} {k : Nat} {u v : Value} {t : TypeId} (h : k = w.heap.size) : Box2 (w.alloc (.cells #[u, v] t)) k u v t := by subst h; exact heap_alloc_new w _
theorem Box2.c0 {w : World} {k : Nat} {u v : Value} {t : TypeId} (h : Box2 w k u v t) : w.cell? ⟨k, 0, none⟩ = some u := by unfold Box2 at h; simp [World.cell?, h]
theorem Box2.c1 {w : World} {k : Nat} {u v : Value} {t : TypeId} (h : Box2 w k u v t) : w.cell? ⟨k, 1, none⟩ = some v := by unfold Box2 at h; simp [World.cell?, h]
theorem Box2.f0 {w : World} {k : Nat} {u v : Value} {t : TypeId} (h : Box2 w k u v t) : w.frozen? ⟨k, 0, none⟩ = false := by unfold Box2 at h; simp [World.frozen?, h]
theorem Box2.f1 {w : World} {k : Nat} {u v : Value} {t : TypeId} (h : Box2 w k u v t) : w.frozen? ⟨k, 1, none⟩ = false := by unfold Box2 at h; simp [World.frozen?, h]
theorem Box2.set {w : World} {k : Nat} {u v : Value} {t : TypeId} (h : Box2 w k u v t) (u' v' : Value) : Box2 ((w.setCell ⟨k, 0, none⟩ u').setCell ⟨k, 1, none⟩ v') k u' v' t := by
 have h1 := Joins.block_setCell (i := 0) h u'
 have h2 := Joins.block_setCell (i := 1) h1 v'
 exact h2
theorem Box2.other {w : World} {k : Nat} {u v : Value} {t : TypeId} (h : Box2 w k u v t) {b : Nat} (hne : k ≠ b) (o : Nat) (x : Value) : Box2 (w.setCell ⟨b, o, none⟩ x) k u v t :=
 (heap_setCell_other w ⟨b, o, none⟩ k x hne).trans h
theorem Box2.other2 {w : World} {k : Nat} {u v : Value} {t : TypeId} (h : Box2 w k u v t) {b : Nat} (hne : k ≠ b) (x y : Value) : Box2 ((w.setCell ⟨b, 0, none⟩ x).setCell ⟨b, 1, none⟩ y) k u v t :=
 (h.other hne 0 x).other hne 1 y
theorem below_set2 {B : Nat} {a w : World} (h : Below B a w) {k : Nat} (hk : B ≤ k) (u v : Value) : Below B a ((w.setCell ⟨k, 0, none⟩ u).setCell ⟨k, 1, none⟩ v) := (h.setCell hk _).setCell hk _
theorem s2 {w : World} {k k' : Nat} {u v u' v' : Value} {t t' : TypeId} (h : Box2 w k u v t) (h' : Box2 w k' u' v' t') :
  w.cell? ⟨k, 0, none⟩ = some u ∧ w.cell? ⟨k, 1, none⟩ = some v ∧ w.cell? ⟨k', 0, none⟩ = some u' ∧ w.cell? ⟨k', 1, none⟩ = some v' := ⟨h.c0, h.c1, h'.c0, h'.c1⟩
theorem boxes3 (w : World) (a b c a' b' c' : Value) (t t' t'' : TypeId) : Box2 (((w.alloc (.cells #[a, a'] t)).alloc (.cells #[b, b'] t')).alloc (.cells #[c, c'] t'')) w.heap.size a a' t ∧
  Box2 (((w.alloc (.cells #[a, a'] t)).alloc (.cells #[b, b'] t')).alloc (.cells #[c, c'] t'')) (w.heap.size + 1) b b' t' ∧
  Box2 (((w.alloc (.cells #[a, a'] t)).alloc (.cells #[b, b'] t')).alloc (.cells #[c, c'] t'')) (w.heap.size + 1 + 1) c c' t'' :=
 ⟨((Box2.new rfl).alloc _).alloc _, (Box2.new (by simp)).alloc _, Box2.new (by simp)⟩

theorem ret_int {k : IntKind} {a b : Int} (h : a = b) : Ending.returned (.int k a) = .returned (.int k b) := by rw [h]

set_option maxHeartbeats 400000 in
theorem digit_any (v : Value) (xs : List Int) (i : Int) (w : World) (h : Row w v xs) (h0 : 0 ≤ i) (hl : xs.length ≤ 1000000) :
  Calls Tryz.prog 84 #[v, .int .i64 i] w fun e w' => e = .returned (.int .i64 (dg xs i.toNat)) ∧ w = w' := by
 obtain ⟨a, cap, b, off, rfl, h1, h2, h3⟩ := h
 by_cases hi : i < xs.length
 ·have hix := fun w => at_row (cap := cap) (fun h => (h2 h).1) i h0 hi w
  have hc := h3 i.toNat (by omega)
  clear h1 h2 h3
  go_enter Tryz.func84, Tryz.ntmps84
  go_wp2
  go_ret
  exact ⟨rfl, rfl⟩
 ·clear h1 h2 h3
  go_enter Tryz.func84, Tryz.ntmps84
  go_wp2
  go_ret
  exact ⟨ret_int (dg_past xs i.toNat (by omega)).symm, rfl⟩

end Go.Proofs.YthoedmikfpbfnaaGreat

namespace Go.Proofs.YthoedmikfpbfnaaGreat
open Go Go.RowKit

theorem info_int : (Tryz.prog.info? 3).map (fun i => (i.zero, i.size, i.bytes)) = some (some (.int .i64 0), 1, 8) := by kernel_rfl

theorem row_of_owns {w : World} {base : Nat} {v : Value} {zs : List Int} {n : Nat} (h : w.ownsRow base 3 1 v n (zs.map (Value.int .i64))) (hn : zs.length = n) : Row w v zs := by
 subst hn
 have hh := h
 obtain ⟨h1, h2⟩ := h
 rcases h2 with ⟨rfl, h0⟩ | ⟨g, cap, cur, rfl, hg, hb, hc, _, hs, ht⟩
 ·have : zs = [] := List.length_eq_zero_iff.1 h0
  subst this; exact Row.nil w
 ·refine ⟨some ⟨g, 0, none⟩, cap, g, 0, rfl, hc, fun _ => ⟨rfl, cur, _, hb⟩, fun i hi => ?_⟩
  rw [Nat.zero_add, hh.cellAt i (by omega), List.getElem?_map, List.getElem?_eq_getElem hi, dg_eq, List.getD, List.getElem?_eq_getElem hi]
  rfl

def RetRow (w : World) (P : List Int → Prop) (e : Ending) (w' : World) : Prop := ∃ v zs, e = .returned v ∧ Row w' v zs ∧ Digs zs ∧ P zs ∧ zs.length ≤ 100001 ∧ Below w.heap.size w w'

theorem cell1 (w : World) (x : Value) (t : TypeId) : (w.alloc (.cells #[x] t)).cell? ⟨w.heap.size, 0, none⟩ = some x := by
 rw [World.cell?_alloc_at _ _ _ _ rfl]; rfl

theorem append_int {ops : Array Oper} {rest : List Oper} {o : Oper} {a : Act} {Q : Exit → Act → World → Prop} {w : World} (hgd : o.guard = none) (s x : Operand)
  (ho : o.op = .call { callee := .builtin .append, args := #[s, x], argTypes := #[35, 35] }) (base : Nat) (wb : World) (v : Value) (n : Nat) (zs : List Int) (hs : a.eval s = v)
  (hown : w.ownsRow base 3 1 v n (zs.map (Value.int .i64))) (ad : Addr) (y : Int) (hx : a.eval x = .slice (some ad) 1 1) (hc : w.cell? ad = some (.int .i64 y)) (hn : n ≤ 1000000)
  (hbase : base ≤ w.heap.size) (hbl : Below base wb w)
  (h : ∀ v' w', w'.ownsRow base 3 1 v' (n + 1) ((zs ++ [y]).map (Value.int .i64)) → Below base wb w' → w.heap.size ≤ w'.heap.size → wpList Tryz.prog ops Q rest (a.put o.dst v') w') : wpList Tryz.prog ops Q (o :: rest) a w := by
 obtain ⟨i0, hi, hz0, hz1, hz2⟩ := info_parts info_int
 refine wpList_append_own w hgd s x 35 ho base 3 i0 (.int .i64 0) 1 8 Tryz.underlying35 hi hz0 hz1 hz2 rfl (by decide) v n _ hs hown ad 1 1 [.int .i64 y] hx rfl ?_ ?_ (by unfold maxLen; omega) (by omega) hbase ?_
 ·intro j u hj
  match j, hj with
  | 0, hj =>
   simp at hj; subst hj
   have : ad.add 0 = ad := by simp [Addr.add]
   rw [this]; exact hc
 ·intro u hu; simp at hu; subst hu; rfl
 ·intro v' w' hown' hg _
  refine h v' w' (by simpa using hown') (hbl.grown hg hbase fun k hk => ?_) hg.size
  exact (hown.lt k hk).1

set_option maxRecDepth 100000 in
set_option maxHeartbeats 1600000 in
theorem plus_any (va vb : Value) (xs ys : List Int) (w : World) (hx : Row w va xs) (hy : Row w vb ys) (dx : Digs xs) (dy : Digs ys) (lx : xs.length ≤ 100000) (ly : ys.length ≤ 100000) :
    Calls Tryz.prog 80 #[va, vb] w (RetRow w fun zs => val zs = val xs + val ys) := by
  have hxr := hx
  have hyr := hy
  obtain ⟨a, ca, ba, oa, rfl, -, -, -⟩ := hx
  obtain ⟨b, cb, bb, ob, rfl, -, -, -⟩ := hy
  go_enter Tryz.func80, Tryz.ntmps80
  go_wp2
  go_loopw [5, 6, 7] (fun out c i wr => ∃ (k : Nat) (cc : Int) (zs : List Int), i = .int .i64 k ∧ c = .int .i64 cc ∧ 0 ≤ cc ∧ cc ≤ 1 ∧ k ≤ 100001 ∧ (xs.length < k → ys.length < k → cc = 0) ∧ zs.length = k ∧ Digs zs ∧
      wr.ownsRow w.heap.size 3 1 out k (zs.map (Value.int .i64)) ∧ val zs + B k * cc = pre xs k + pre ys k ∧ Below w.heap.size w wr) (fun _ _ i _ => 100002 - (intOf i).toNat)
  case atStart => exact ⟨0, 0, [], rfl, rfl, by omega, by omega, by omega, fun _ _ => rfl, rfl, Digs.nil, World.ownsRow_nil _ _ _ _, by simp [val, pre_zero], Below.refl _ _⟩
  case round =>
    obtain ⟨k, cc, zs, rfl, rfl, hc0, hc1, hk, hM, hzl, dz, hown, hv, hbl⟩ := hrel
    have hRx := hxr.below hbl
    have hRy := hyr.below hbl
    have hdx := dx k
    have hdy := dy k
    have hst := Lib.hid (plus_step xs ys zs k cc hzl hv)
    have HM := Lib.hid hM
    have HL := Lib.hid hzl
    have HV := Lib.hid hv
    clear hM hzl hv dx dy
    have hbs := hbl.size
    by_cases h1 : k < xs.length <;> by_cases h2 : k < ys.length <;> by_cases h3 : 0 < cc
    all_goals
      first
      | (exfalso; have := HM.out; omega)
      | (go_wp2_with (first
        | (go_at_call 84; (with_reducible refine (digit_any (.slice a xs.length ca) xs _ _ hRx (by omega) (by omega)).mono ?_); rintro e w' ⟨rfl, rfl⟩)
        | (go_at_call 84; (with_reducible refine (digit_any (.slice b ys.length cb) ys _ _ hRy (by omega) (by omega)).mono ?_); rintro e w' ⟨rfl, rfl⟩)
        | (at_builtin; refine append_int rfl _ _ rfl w.heap.size w _ _ _ rfl (hown.alloc _) ⟨wr.heap.size, 0, none⟩ _ rfl (cell1 _ _ _) (by omega) (by simp; omega) (hbl.alloc hbs _) ?_; intro v' w' hown' hbl' hsz'))
         first
         | (have hM := HM.out
            have hx0 := dg_past xs k
            have hy0 := dg_past ys k
            go_roundw
            case rel => exact ⟨k + 1, _, _, by go_num, rfl, by omega, by omega, by omega, by intros; omega, by simp [HL.out], dz.snoc (digit_mod _).1 (digit_mod _).2, hown', hst.out, hbl'⟩
            case measure => simp [intOf]; omega)
         | (clear hst
            go_ret
            refine ⟨_, zs, rfl, row_of_owns hown HL.out, dz, ?_, by rw [HL.out]; omega, hbl⟩
            have e := HV.out
            rw [pre_all xs k (by omega), pre_all ys k (by omega), show cc = 0 by omega] at e
            omega))
end Go.Proofs.YthoedmikfpbfnaaGreat

namespace Go.Proofs.YthoedmikfpbfnaaGreat
open Go Go.RowKit

theorem Row.drewN {w : World} {v : Value} {xs : List Int} (h : Row w v xs) (n : Nat) : Row (w.drewN n) v xs := h

theorem digit_q (v : Value) (xs : List Int) (i : Int) (w : World) (n : Nat) (h : Row w v xs) (h0 : 0 ≤ i) (hl : xs.length ≤ 1000000) :
  Calls Tryz.prog 84 #[v, .int .i64 i] (w.drewN n) fun e w' => e = .returned (.int .i64 (dg xs i.toNat)) ∧ w' = w.drewN n :=
 (digit_any v xs i _ (h.drewN n) h0 hl).mono fun _ _ ⟨he, hw⟩ => ⟨he, hw.symm⟩

set_option maxRecDepth 100000 in
set_option maxHeartbeats 1600000 in
theorem minus_any (va vb : Value) (xs ys : List Int) (w : World) (hx : Row w va xs) (hy : Row w vb ys) (dx : Digs xs) (dy : Digs ys) (lx : xs.length ≤ 100000) (ly : ys.length ≤ xs.length) (hle : val ys ≤ val xs) :
  Calls Tryz.prog 82 #[va, vb] w (RetRow w fun zs => val zs = val xs - val ys) := by
 have hxr := hx
 have hyr := hy
 obtain ⟨a, ca, ba, oa, rfl, -, hxa, hxc⟩ := hx
 obtain ⟨b, cb, bb, ob, rfl, -, -, -⟩ := hy
 go_enter Tryz.func82, Tryz.ntmps82
 go_wp2
 go_loopw [5, 6, 7] (fun out c i wr => ∃ (k : Nat) (cc : Int) (zs : List Int), i = .int .i64 k ∧ c = .int .i64 cc ∧ 0 ≤ cc ∧ cc ≤ 1 ∧ k ≤ xs.length ∧ zs.length = k ∧ Digs zs ∧
   wr.ownsRow w.heap.size 3 1 out k (zs.map (Value.int .i64)) ∧ val zs - B k * cc = pre xs k - pre ys k ∧ Below w.heap.size w wr) (fun _ _ i _ => 100002 - (intOf i).toNat)
 case atStart => exact ⟨0, 0, [], rfl, rfl, by omega, by omega, by omega, rfl, Digs.nil, World.ownsRow_nil _ _ _ _, by simp [val, pre_zero], Below.refl _ _⟩
 case round =>
  obtain ⟨k, cc, zs, rfl, rfl, hc0, hc1, hk, hzl, dz, hown, hv, hbl⟩ := hrel
  have hRx := hxr.below hbl
  have hRy := hyr.below hbl
  have hdx := dx k
  have hdy := dy k
  have HL := Lib.hid hzl
  have HV := Lib.hid hv
  clear hzl hv dx dy
  have hbs := hbl.size
  by_cases h1 : k < xs.length
  ·have hix := fun w => at_row (cap := ca) (fun h => (hxa h).1) (k : Int) (by omega) (by omega) w
   have hcell := (hbl.cell (p := ⟨ba, oa + k, none⟩) (hxa (by omega)).2.lt).trans (hxc k (by omega))
   have hiy := digit_q (.slice b ys.length cb) ys k wr 0 hRy (by omega) (by omega)
   clear hxa hxc hxr hyr
   by_cases h2 : dg xs k - dg ys k - cc < 0
   all_goals
    go_wp2_with fail
    go_quiet ((go_at_call 84; exact Calls.quiet_of_same (digit_q (.slice b ys.length cb) ys k wr _ hRy (by omega) (by omega))))
    go_wp2_with (at_builtin; refine append_int rfl _ _ rfl w.heap.size w _ _ _ rfl (World.ownsRow.alloc (w := wr.drewN _) hown _) ⟨wr.heap.size, 0, none⟩ _ rfl (cell1 _ _ _) (by omega) (by simp; omega) ((below_drewN hbl _).alloc hbs _) ?_; intro v' w' hown' hbl' hsz')
    go_roundw
    case rel => exact ⟨k + 1, _, _, by go_num, rfl, by omega, by omega, by omega, by simp [HL.out], dz.snoc (by omega) (by omega), hown', by first | exact minus_step xs ys zs k cc 1 HL.out HV.out | simpa using minus_step xs ys zs k cc 0 HL.out HV.out, hbl'⟩
    case measure => simp [intOf]; omega
  ·clear hxa hxc hxr hyr
   go_wp2_with fail
   go_ret
   exact ⟨_, zs, rfl, row_of_owns hown HL.out, dz, minus_end dz HL.out (by omega) (by omega) hc0 hle HV.out hc1, by rw [HL.out]; omega, hbl⟩

def Drawn (w w' : World) : Prop := ∃ k, w' = w.drewN k
theorem Drawn.refl (w : World) : Drawn w w := ⟨0, rfl⟩
theorem Drawn.more {w w' : World} (h : Drawn w w') (n : Nat) : Drawn w (w'.drewN n) := by
 obtain ⟨k, rfl⟩ := h
 exact ⟨k + n, by simp [World.drewN, Nat.add_assoc]⟩

theorem Drawn.cell {w w' : World} (h : Drawn w w') {a : Addr} {v : Value} (hc : w.cell? a = some v) : w'.cell? a = some v := by
 obtain ⟨k, rfl⟩ := h; exact hc

def RetInt (w : World) (n : Int) (e : Ending) (w' : World) : Prop := e = .returned (.int .i64 n) ∧ Drawn w w'

set_option maxRecDepth 100000 in
set_option maxHeartbeats 1600000 in
theorem compare_any (va vb : Value) (xs ys : List Int) (w : World) (hx : Row w va xs) (hy : Row w vb ys) (dx : Digs xs) (dy : Digs ys) (tx : Tidy xs) (ty : Tidy ys) (lx : xs.length ≤ 100000) (ly : ys.length ≤ 100000) :
  Calls Tryz.prog 81 #[va, vb] w (RetInt w (cmpI (val xs) (val ys))) := by
 obtain ⟨a, ca, ba, oa, rfl, -, hxa, hxc⟩ := hx
 obtain ⟨b, cb, bb, ob, rfl, -, hya, hyc⟩ := hy
 by_cases hl : xs.length < ys.length
 ·have hlt := Lib.hid (cmpI_lt (less_len dx dy ty hl))
  have hne : (xs.length != ys.length) = true := by rw [bne_iff_ne]; omega
  clear hxa hxc hya hyc dx dy tx ty
  go_enter Tryz.func81, Tryz.ntmps81
  go_wp2
  go_ret
  exact ⟨by rw [hlt.out]; rfl, Drawn.refl w⟩
 by_cases hl2 : ys.length < xs.length
 ·have hlt := Lib.hid (cmpI_gt (less_len dy dx tx hl2))
  have hne : (xs.length != ys.length) = true := by rw [bne_iff_ne]; omega
  clear hxa hxc hya hyc dx dy tx ty
  go_enter Tryz.func81, Tryz.ntmps81
  go_wp2
  go_ret
  exact ⟨by rw [hlt.out]; rfl, Drawn.refl w⟩
 have hle : xs.length = ys.length := by omega
 have hlen := Lib.hid hle
 have hne : ((xs.length : Int) != (ys.length : Int)) = false := by rw [hle]; simp
 clear hle tx ty
 go_enter Tryz.func81, Tryz.ntmps81
 go_wp2
 go_loopw [5] (fun i wr => ∃ (k : Nat), i = .int .i64 ((k : Int) - 1) ∧ k ≤ xs.length ∧ xs.drop k = ys.drop k ∧ Drawn w wr) (fun i _ => (intOf i + 1).toNat)
 case atStart => exact ⟨xs.length, rfl, Nat.le_refl _, by rw [List.drop_of_length_le (Nat.le_refl _), List.drop_of_length_le (by omega)], Drawn.refl w⟩
 case round =>
  obtain ⟨k, rfl, hk, hd, hdr⟩ := hrel
  have HD := Lib.hid hd
  clear hd
  by_cases h0 : k = 0
  ·subst h0
   have hxy := HD.out
   simp only [List.drop_zero] at hxy
   subst hxy
   clear HD hlen hl hl2
   go_wp2_with fail
   go_ret
   exact ⟨by rw [cmpI_eq rfl]; rfl, hdr⟩
  ·obtain ⟨j, rfl⟩ : ∃ j, k = j + 1 := ⟨k - 1, by omega⟩
   have hix := fun w => at_row (cap := ca) (fun h => (hxa h).1) (((j + 1 : Nat) : Int) - 1) (by omega) (by omega) w
   have hiy := fun w => at_row (cap := cb) (fun h => (hya h).1) (((j + 1 : Nat) : Int) - 1) (by omega) (by omega) w
   have e : ((j + 1 : Nat) : Int) - 1 = j := by omega
   simp only [e] at hix hiy ⊢
   have hcx := hdr.cell (hxc j (by omega))
   have hcy := hdr.cell (hyc j (by have := hlen.out; omega))
   clear hxa hxc hya hyc e
   rcases Int.lt_trichotomy (dg xs j) (dg ys j) with h | h | h
   ·have hc := Lib.hid (cmpI_lt (less_at dx dy j hlen.out (by omega) HD.out h))
    go_wp2_with fail
    go_quiet (fail)
    go_wp2_with fail
    go_ret
    exact ⟨by rw [hc.out]; rfl, hdr.more _⟩
   ·have hs := Lib.hid (drop_step xs ys j hlen.out (by omega) HD.out h)
    have h1 : ¬ dg xs j < dg ys j := by omega
    have h2 : ¬ dg ys j < dg xs j := by omega
    clear h
    go_wp2_with fail
    go_quiet (fail)
    go_wp2_with fail
    go_quiet (fail)
    go_wp2_with fail
    go_roundw
    case rel => exact ⟨j, by go_num, by omega, hs.out, hdr.more _⟩
    case measure => simp [intOf]
   ·have hc := Lib.hid (cmpI_gt (less_at dy dx j (by have := hlen.out; omega) (by have := hlen.out; omega) HD.out.symm h))
    go_wp2_with fail
    go_quiet (fail)
    go_wp2_with fail
    go_quiet (fail)
    go_wp2_with fail
    go_ret
    exact ⟨by rw [hc.out]; rfl, (hdr.more _).more _⟩
end Go.Proofs.YthoedmikfpbfnaaGreat

namespace Go.Proofs.YthoedmikfpbfnaaGreat
open Go Go.RowKit

def IsZ (w : World) (neg : Bool) (sv : Value) (n : Int) : Prop :=
 ∃ ds : List Int, Row w sv ds ∧ Digs ds ∧ Tidy ds ∧ n = sgn neg (val ds) ∧ neg = decide (n < 0)
def RetZ (w : World) (n : Int) (e : Ending) (w' : World) : Prop := ∃ neg a l c, e = .returned (.agg #[.bool neg, .slice a l c]) ∧ IsZ w' neg (.slice a l c) n ∧ Below w.heap.size w w'

theorem IsZ.below {w w' : World} {neg : Bool} {sv : Value} {n : Int} (h : IsZ w neg sv n) (hb : Below w.heap.size w w') : IsZ w' neg sv n := by
 obtain ⟨ds, h2, h3⟩ := h
 exact ⟨ds, h2.below hb, h3⟩

theorem IsZ.setCell {w : World} {neg : Bool} {sv : Value} {n : Int} (h : IsZ w neg sv n) {k : Nat} {t : TypeId} (hk : Kind w k t) (ht : 3 ≠ t) (o : Nat) (u : Value) : IsZ (w.setCell ⟨k, o, none⟩ u) neg sv n := by
 obtain ⟨ds, h2, h3⟩ := h
 exact ⟨ds, h2.setCell hk ht o u, h3⟩

theorem IsZ.set2 {w : World} {neg : Bool} {sv : Value} {n : Int} (h : IsZ w neg sv n) {k : Nat} {t : TypeId} (hk : Kind w k t) (ht : 3 ≠ t) (u u' : Value) : IsZ ((w.setCell ⟨k, 0, none⟩ u).setCell ⟨k, 1, none⟩ u') neg sv n :=
 (h.setCell hk ht 0 u).setCell (hk.setCell k 0 u) ht 1 u'

theorem isZ_of {w : World} {sv : Value} {ds : List Int} (neg : Bool) (h : Row w sv ds) (dd : Digs ds) (td : Tidy ds) (h0 : 0 < val ds) : IsZ w neg sv (sgn neg (val ds)) :=
 ⟨ds, h, dd, td, rfl, by cases neg <;> simp [sgn] <;> omega⟩
theorem isZ_zero (w : World) : IsZ w false (.slice none 0 0) 0 := ⟨[], Row.nil w, Digs.nil, Tidy.nil, by simp [sgn, val], by simp⟩
theorem sgn_zero (neg : Bool) : sgn neg 0 = 0 := by cases neg <;> simp [sgn]

theorem tidy_zero_end (w w' : World) (neg : Bool) (m : Int) (h : m = 0) (hb : Below w.heap.size w w') : RetZ w (sgn neg m) (.returned (.agg #[.bool false, .slice none 0 0])) w' := by
 subst h; rw [sgn_zero]; exact ⟨_, _, _, _, rfl, isZ_zero _, hb⟩

set_option maxRecDepth 100000 in
set_option maxHeartbeats 1600000 in
theorem tidy_any (neg : Bool) (v : Value) (xs : List Int) (w : World) (hx : Row w v xs) (dx : Digs xs) (lx : xs.length ≤ 1000000) :
  Calls Tryz.prog 79 #[.bool neg, v] w (RetZ w (sgn neg (val xs))) := by
 have hxr := hx
 obtain ⟨a, ca, ba, oa, rfl, hca, hxa, hxc⟩ := hx
 go_enter Tryz.func79, Tryz.ntmps79
 go_wp2
 go_loop [5] (fun i => ∃ (k : Nat), i = .int .i64 k ∧ k ≤ xs.length ∧ pre xs k = val xs) (fun i => (intOf i).toNat)
 case atStart => exact ⟨xs.length, rfl, Nat.le_refl _, pre_len xs⟩
 case round =>
  obtain ⟨k, rfl, hk, hp⟩ := hrel
  have HP := Lib.hid hp
  clear hp
  by_cases h0 : k = 0
  ·subst h0
   clear hxa hxc hca
   go_wp2_with fail
   have hv := HP.out
   rw [pre_zero] at hv
   refine bodyPost_ret (v := .agg #[.bool false, .slice none 0 0]) (by simp [results, Tryz.results79, go_sem]) rfl (tidy_zero_end w _ neg _ hv.symm ?_)
   exact (Below.refl _ _).alloc (Nat.le_refl _) _
  ·obtain ⟨j, rfl⟩ : ∃ j, k = j + 1 := ⟨k - 1, by omega⟩
   have hix := fun w => at_row (cap := ca) (fun h => (hxa h).1) (((j + 1 : Nat) : Int) - 1) (by omega) (by omega) w
   have e : ((j + 1 : Nat) : Int) - 1 = j := by omega
   simp only [e] at hix
   have hcx := hxc j (by omega)
   have hba := (hxa (by omega)).2.lt
   clear hxa e hxc
   by_cases hz : dg xs j = 0
   ·have hs := Lib.hid ((pre_strip xs j hz).symm.trans HP.out)
    go_wp2_with fail
    go_round
    case rel => exact ⟨j, rfl, by omega, hs.out⟩
    case measure => simp [intOf]
   ·go_wp2_with fail
    have hrow : Row w (.slice a (j + 1) ca) (xs.take (j + 1)) := by
     have := hxr.take (j + 1) (by omega)
     exact this
    have hl : (xs.take (j + 1)).length = j + 1 := by simp; omega
    have hg : dg (xs.take (j + 1)) j = dg xs j := dg_take xs (j + 1) j (by omega)
    have ht : Tidy (xs.take (j + 1)) := fun _ => by rw [hl, Nat.add_sub_cancel, hg]; exact hz
    have hp : 0 < val (xs.take (j + 1)) := by
     have h1 := tidy_ge (dx.take (j + 1)) ht (by omega)
     have h2 := B_pos ((xs.take (j + 1)).length - 1)
     omega
    refine bodyPost_ret (v := .agg #[.bool neg, .slice a (j + 1) ca]) (by simp [results, Tryz.results79, go_sem]) rfl ⟨_, _, _, _, rfl, ?_, (Below.refl _ _).alloc (Nat.le_refl _) _⟩
    have hz := (isZ_of neg hrow (dx.take (j + 1)) ht hp).below ((Below.refl _ w).alloc (Nat.le_refl _) (.cells #[.bool neg, .slice a (j + 1) ca] 37))
    have e : val (xs.take (j + 1)) = val xs := HP.out
    rw [e] at hz
    exact hz

set_option maxRecDepth 100000 in
set_option maxHeartbeats 1600000 in
theorem ofu_any (n : Int) (w : World) (h0 : 0 ≤ n) (h1 : n < 18446744073709551616) :
  Calls Tryz.prog 39 #[.int .u64 n] w (RetZ w n) := by
 go_enter Tryz.func39, Tryz.ntmps39
 go_wp2
 go_loopw [0, 3, 4] (fun q out i wr => ∃ (k : Nat) (c : Int) (zs : List Int), i = .int .i64 k ∧ q = .int .u64 c ∧ 0 ≤ c ∧ c < 18446744073709551616 ∧ k ≤ 4 ∧ zs.length = k ∧ Digs zs ∧
   wr.ownsRow (w.heap.size + 1) 3 1 out k (zs.map (Value.int .i64)) ∧ val zs + B k * c = n ∧ Below w.heap.size w wr ∧ Below (w.heap.size + 1) (w.alloc (.cells #[.bool false, .slice none 0 0] 37)) wr) (fun _ _ i _ => 5 - (intOf i).toNat)
 case atStart => exact ⟨0, n, [], rfl, rfl, h0, h1, by omega, rfl, Digs.nil, World.ownsRow_nil _ _ _ _, by simp [val, B_zero], (Below.refl _ _).alloc (Nat.le_refl _) _, Below.refl _ _⟩
 case round =>
  obtain ⟨k, c, zs, rfl, rfl, hc0, hc1, hk, hzl, dz, hown, hv, hbl, hbk⟩ := hrel
  have HL := Lib.hid hzl
  have HV := Lib.hid hv
  clear hzl hv
  have hbs := hbk.size
  have hbs2 : w.heap.size + 1 ≤ wr.heap.size := by simpa using hbs
  by_cases h4 : k < 4
  ·have hst := Lib.hid (ofu_step n c zs k HL.out HV.out)
   go_wp2_with (at_builtin; refine append_int rfl _ _ rfl (w.heap.size + 1) (w.alloc (.cells #[.bool false, .slice none 0 0] 37)) _ _ _ rfl (hown.alloc _) ⟨wr.heap.size, 0, none⟩ _ rfl (cell1 _ _ _) (by omega) (by simp; omega) (hbk.alloc hbs2 _) ?_; intro v' w' hown' hbl' hsz')
   go_roundw
   case rel => exact ⟨k + 1, _, _, by go_num, rfl, by omega, by omega, by omega, by simp [HL.out], dz.snoc (by omega) (by omega), hown', hst.out, ((Below.refl _ w).alloc (Nat.le_refl _) _).trans (hbl'.mono (by omega)), hbl'⟩
   case measure => simp [intOf]; omega
  ·obtain rfl : k = 4 := by omega
   have hn := Lib.hid (ofu_end dz HV.out h1 hc0)
   have hcr := fun o => hbk.cell (p := ⟨w.heap.size, o, none⟩) (Nat.lt_succ_self _)
   have hfr := fun o => hbk.frozen (p := ⟨w.heap.size, o, none⟩) (Nat.lt_succ_self _)
   have hlt : w.heap.size < wr.heap.size := by omega
   clear hbs
   go_wp2_with (go_at_call 79; (with_reducible refine (tidy_any false _ zs _ (row_of_owns hown HL.out) dz ?_).mono ?_); (have := HL.out; omega); rintro e w1 ⟨neg, a1, l1, c1, rfl, hz1, hb1⟩; obtain ⟨hcl, hfr1⟩ := bcell hb1)
   rw [hn.out] at hz1
   have hk0 : Kind w1 w.heap.size 37 := by
    have h0 : Kind wr w.heap.size 37 := ⟨#[.bool false, .slice none 0 0], (0, 0), (hbk.block _ (Nat.lt_succ_self _)).trans (heap_alloc_new w _)⟩
    exact h0.below hb1
   refine bodyPost_ret (v := .agg #[.bool neg, .slice a1 l1 c1]) (by simp [results, Tryz.results39, go_sem, hcl, hcr, hlt]) rfl ⟨_, _, _, _, rfl, (hz1.setCell hk0 (by decide) _ _).setCell (hk0.setCell _ _ _) (by decide) _ _, ?_⟩
   exact ((hbl.trans (hb1.mono hbl.size)).setCell (Nat.le_refl _) _).setCell (Nat.le_refl _) _

end Go.Proofs.YthoedmikfpbfnaaGreat
end
