/-
  What the program's head says, word by word: the program is a plain cut; nothing is lifted.
-/
import Derived.Test.YtcndfpfjckkinaaRows
import Derived.JoinedOf
import Derived.KernelRfl
namespace Go.Proofs.Ytcndfpfjckkinaa
open Go

theorem words_step (a : List Char) (h : a.all (fun c => !(c == Char.ofNat 32)) = true) (r : List Char) : wordsSigns (a ++ Char.ofNat 32 :: r) = a :: wordsSigns r := by
  induction a with
  | nil => rfl
  | cons c a ih =>
    simp only [List.all_cons, Bool.and_eq_true] at h
    have hc : c ≠ Char.ofNat 32 := by simpa using h.1
    rw [List.cons_append, wordsSigns.eq_3 _ _ (fun e => hc e), ih h.2]
def headA : List Char := [104, 97, 114, 110, 101, 115, 115].map Char.ofNat
def headB : List Char := [54, 48, 99, 57, 100, 57, 101, 54, 98, 55, 102, 55, 54, 97, 50, 57, 48, 53, 99, 49, 54, 102, 54, 97, 48, 54, 55, 100, 101, 56, 97, 51, 55, 98, 99, 56, 48, 55, 48, 99, 53, 50, 97, 54, 102, 102, 56, 99, 99, 49, 56, 99, 51, 54, 98, 55, 51, 56, 49, 54, 98, 51, 49, 51].map Char.ofNat
def headC : List Char := [99, 117, 116].map Char.ofNat
def headR : List Char := [97, 116, 32, 97, 110, 97, 108, 101, 109, 109, 97, 47, 97, 110, 97, 108, 101, 109, 109, 97, 108, 97, 119, 48, 54, 46, 67, 108, 111, 99, 107, 82, 111, 117, 110, 100, 115, 32, 97, 110, 97, 108, 101, 109, 109, 97, 47, 97, 110, 97, 108, 101, 109, 109, 97, 108, 97, 119, 48, 55, 46, 80, 108, 97, 105, 110, 67, 111, 117, 110, 116, 115, 32, 97, 110, 97, 108, 101, 109, 109, 97, 47, 97, 110, 97, 108, 101, 109, 109, 97, 108, 97, 119, 48, 55, 46, 80, 108, 97, 105, 110, 65, 100, 100, 115, 32, 97, 110, 97, 108, 101, 109, 109, 97, 47, 97, 110, 97, 108, 101, 109, 109, 97, 108, 97, 119, 48, 55, 46, 80, 108, 97, 105, 110, 66, 101, 116, 119, 101, 101, 110, 32, 97, 110, 97, 108, 101, 109, 109, 97, 47, 97, 110, 97, 108, 101, 109, 109, 97, 108, 97, 119, 48, 55, 46, 80, 108, 97, 105, 110, 79, 114, 100, 101, 114, 115, 32, 97, 110, 97, 108, 101, 109, 109, 97, 47, 97, 110, 97, 108, 101, 109, 109, 97, 108, 97, 119, 48, 55, 46, 80, 108, 97, 105, 110, 82, 111, 117, 110, 100, 115, 32, 97, 110, 97, 108, 101, 109, 109, 97, 47, 97, 110, 97, 108, 101, 109, 109, 97, 108, 97, 119, 48, 55, 46, 80, 108, 97, 105, 110, 78, 101, 97, 114, 32, 97, 110, 97, 108, 101, 109, 109, 97, 47, 97, 110, 97, 108, 101, 109, 109, 97, 108, 97, 119, 49, 56, 46, 68, 117, 114, 97, 116, 105, 111, 110, 76, 97, 121, 115, 32, 97, 110, 97, 108, 101, 109, 109, 97, 47, 97, 110, 97, 108, 101, 109, 109, 97, 108, 97, 119, 49, 56, 46, 68, 117, 114, 97, 116, 105, 111, 110, 65, 100, 100, 115, 32, 97, 110, 97, 108, 101, 109, 109, 97, 47, 97, 110, 97, 108, 101, 109, 109, 97, 108, 97, 119, 49, 56, 46, 68, 117, 114, 97, 116, 105, 111, 110, 84, 111, 116, 97, 108, 115, 32, 97, 110, 97, 108, 101, 109, 109, 97, 47, 97, 110, 97, 108, 101, 109, 109, 97, 108, 97, 119, 49, 56, 46, 68, 117, 114, 97, 116, 105, 111, 110, 85, 110, 105, 116, 115, 32, 97, 110, 97, 108, 101, 109, 109, 97, 47, 97, 110, 97, 108, 101, 109, 109, 97, 108, 97, 119, 49, 56, 46, 68, 117, 114, 97, 116, 105, 111, 110, 82, 105, 103, 104, 116, 115, 32, 97, 110, 97, 108, 101, 109, 109, 97, 47, 97, 110, 97, 108, 101, 109, 109, 97, 108, 97, 119, 49, 56, 46, 68, 117, 114, 97, 116, 105, 111, 110, 66, 97, 99, 107, 32, 97, 110, 97, 108, 101, 109, 109, 97, 47, 97, 110, 97, 108, 101, 109, 109, 97, 108, 97, 119, 49, 56, 46, 68, 117, 114, 97, 116, 105, 111, 110, 82, 111, 117, 110, 100, 115, 32, 97, 110, 97, 108, 101, 109, 109, 97, 47, 97, 110, 97, 108, 101, 109, 109, 97, 108, 97, 119, 50, 49, 46, 73, 110, 115, 116, 97, 110, 116, 82, 111, 117, 110, 100, 115, 32, 97, 110, 97, 108, 101, 109, 109, 97, 47, 97, 110, 97, 108, 101, 109, 109, 97, 108, 97, 119, 50, 49, 46, 73, 110, 115, 116, 97, 110, 116, 83, 112, 108, 105, 116, 115, 32, 97, 110, 97, 108, 101, 109, 109, 97, 47, 97, 110, 97, 108, 101, 109, 109, 97, 108, 97, 119, 50, 49, 46, 73, 110, 115, 116, 97, 110, 116, 65, 100, 100, 115, 32, 97, 110, 97, 108, 101, 109, 109, 97, 47, 97, 110, 97, 108, 101, 109, 109, 97, 108, 97, 119, 50, 49, 46, 73, 110, 115, 116, 97, 110, 116, 66, 97, 99, 107, 32, 97, 110, 97, 108, 101, 109, 109, 97, 47, 97, 110, 97, 108, 101, 109, 109, 97, 108, 97, 119, 49, 57, 46, 67, 97, 108, 101, 110, 100, 97, 114, 85, 110, 116, 105, 108, 115, 32, 97, 110, 97, 108, 101, 109, 109, 97, 47, 97, 110, 97, 108, 101, 109, 109, 97, 108, 97, 119, 49, 57, 46, 67, 97, 108, 101, 110, 100, 97, 114, 66, 97, 99, 107, 32, 97, 110, 97, 108, 101, 109, 109, 97, 47, 97, 110, 97, 108, 101, 109, 109, 97, 108, 97, 119, 49, 57, 46, 67, 97, 108, 101, 110, 100, 97, 114, 83, 105, 103, 110, 115, 32, 97, 110, 97, 108, 101, 109, 109, 97, 47, 97, 110, 97, 108, 101, 109, 109, 97, 108, 97, 119, 50, 48, 46, 82, 101, 108, 97, 116, 105, 118, 101, 66, 97, 99, 107, 32, 97, 110, 97, 108, 101, 109, 109, 97, 47, 97, 110, 97, 108, 101, 109, 109, 97, 108, 97, 119, 50, 48, 46, 82, 101, 108, 97, 116, 105, 118, 101, 69, 120, 97, 99, 116].map Char.ofNat
theorem head_order : Try.prog.initOrder = String.ofList (headA ++ Char.ofNat 32 :: (headB ++ Char.ofNat 32 :: (headC ++ Char.ofNat 32 :: headR))) := by kernel_rfl
theorem head_words : wordsSigns Try.prog.initOrder.toList = headA :: headB :: headC :: wordsSigns headR := by
  rw [head_order, String.toList_ofList, words_step _ (by kernel_rfl), words_step _ (by kernel_rfl), words_step _ (by kernel_rfl)]
theorem head_behind (R : List (List Char)) : behindMainWord (headA :: headB :: headC :: R) = headC :: R := by
  have e : ((headA == "harness".toList || headA == "ownmain".toList) && isSumSigns headB) = true := by kernel_rfl
  simp only [behindMainWord, e, if_true]
theorem head_strip (R : List (List Char)) : stripLifts liftWords (headC :: R) = ([], headC :: R) := by rfl
theorem make_of {P : Program} {R : List (List Char)} (h : behindMainWord (wordsSigns P.initOrder.toList) = headC :: R) : P.make = some .cut := by
  unfold Program.make
  rw [h]
  rfl
theorem lifts_of {P : Program} {R : List (List Char)} (h : behindMainWord (wordsSigns P.initOrder.toList) = headC :: R) : P.liftsFinal = false := by
  unfold Program.liftsFinal Program.headLifts
  rw [h]
  simp only [head_strip]
  rfl
theorem may_of {P : Program} {R : List (List Char)} (h : behindMainWord (wordsSigns P.initOrder.toList) = headC :: R) (h1 : P.laysLater = false) (h2 : P.bearsReflect = false) (h3 : P.doorFits [] = true) : P.mayEnter = true := by
  unfold Program.mayEnter
  rw [h]
  simp only [head_strip, h1, h2, h3]
  rfl
theorem head_is : behindMainWord (wordsSigns Try.prog.initOrder.toList) = headC :: wordsSigns headR := by
  rw [head_words, head_behind]
theorem head_make : Try.prog.make = some .cut := make_of head_is
theorem head_lifts : Try.prog.liftsFinal = false := lifts_of head_is
theorem head_may : Try.prog.mayEnter = true := may_of head_is (by kernel_rfl) (by kernel_rfl) (by kernel_rfl)
end Go.Proofs.Ytcndfpfjckkinaa
