/-
  What the program's head says, word by word: the program is a plain cut; nothing is lifted.
-/
import Derived.Test.YtmkddcmfofabbaaRows
import Derived.JoinedOf
import Derived.KernelRfl
namespace Go.Proofs.Ytmkddcmfofabbaa
open Go

theorem words_step (a : List Char) (h : a.all (fun c => !(c == Char.ofNat 32)) = true) (r : List Char) : wordsSigns (a ++ Char.ofNat 32 :: r) = a :: wordsSigns r := by
  induction a with
  | nil => rfl
  | cons c a ih =>
    simp only [List.all_cons, Bool.and_eq_true] at h
    have hc : c ≠ Char.ofNat 32 := by simpa using h.1
    rw [List.cons_append, wordsSigns.eq_3 _ _ (fun e => hc e), ih h.2]
def headA : List Char := [104, 97, 114, 110, 101, 115, 115].map Char.ofNat
def headB : List Char := [101, 98, 50, 54, 48, 99, 97, 53, 50, 53, 49, 56, 49, 56, 100, 102, 57, 50, 102, 98, 102, 51, 56, 55, 57, 56, 52, 102, 99, 54, 56, 51, 50, 57, 52, 49, 97, 100, 97, 99, 97, 102, 99, 98, 51, 49, 53, 101, 98, 57, 100, 101, 102, 99, 98, 102, 54, 56, 51, 100, 51, 49, 56, 102].map Char.ofNat
def headC : List Char := [99, 117, 116].map Char.ofNat
def headR : List Char := [97, 116, 32, 97, 110, 97, 108, 101, 109, 109, 97, 47, 97, 110, 97, 108, 101, 109, 109, 97, 108, 97, 119, 48, 50, 46, 87, 105, 100, 101, 72, 97, 110, 100, 115, 32, 97, 110, 97, 108, 101, 109, 109, 97, 47, 97, 110, 97, 108, 101, 109, 109, 97, 108, 97, 119, 48, 50, 46, 87, 105, 100, 101, 73, 110, 116, 115, 32, 97, 110, 97, 108, 101, 109, 109, 97, 47, 97, 110, 97, 108, 101, 109, 109, 97, 108, 97, 119, 48, 50, 46, 87, 105, 100, 101, 80, 114, 111, 100, 117, 99, 116, 115, 32, 97, 110, 97, 108, 101, 109, 109, 97, 47, 97, 110, 97, 108, 101, 109, 109, 97, 108, 97, 119, 48, 50, 46, 87, 105, 100, 101, 83, 117, 109, 115, 32, 97, 110, 97, 108, 101, 109, 109, 97, 47, 97, 110, 97, 108, 101, 109, 109, 97, 108, 97, 119, 48, 50, 46, 87, 105, 100, 101, 83, 117, 109, 32, 97, 110, 97, 108, 101, 109, 109, 97, 47, 97, 110, 97, 108, 101, 109, 109, 97, 108, 97, 119, 48, 50, 46, 87, 105, 100, 101, 84, 101, 120, 116, 115, 32, 97, 110, 97, 108, 101, 109, 109, 97, 47, 97, 110, 97, 108, 101, 109, 109, 97, 108, 97, 119, 48, 51, 46, 68, 105, 118, 105, 100, 101, 70, 108, 111, 111, 114, 115, 32, 97, 110, 97, 108, 101, 109, 109, 97, 47, 97, 110, 97, 108, 101, 109, 109, 97, 108, 97, 119, 48, 51, 46, 68, 105, 118, 105, 100, 101, 84, 114, 117, 110, 99, 115, 32, 97, 110, 97, 108, 101, 109, 109, 97, 47, 97, 110, 97, 108, 101, 109, 109, 97, 108, 97, 119, 48, 51, 46, 68, 105, 118, 105, 100, 101, 67, 111, 109, 109, 111, 110, 115, 32, 97, 110, 97, 108, 101, 109, 109, 97, 47, 97, 110, 97, 108, 101, 109, 109, 97, 108, 97, 119, 48, 50, 46, 87, 105, 100, 101, 66, 97, 99, 107, 32, 97, 110, 97, 108, 101, 109, 109, 97, 47, 97, 110, 97, 108, 101, 109, 109, 97, 108, 97, 119, 48, 51, 46, 68, 105, 118, 105, 100, 101, 66, 121, 115, 32, 97, 110, 97, 108, 101, 109, 109, 97, 47, 97, 110, 97, 108, 101, 109, 109, 97, 108, 97, 119, 48, 51, 46, 68, 105, 118, 105, 100, 101, 82, 101, 115, 116, 115, 32, 97, 110, 97, 108, 101, 109, 109, 97, 47, 97, 110, 97, 108, 101, 109, 109, 97, 108, 97, 119, 48, 51, 46, 68, 105, 118, 105, 100, 101, 70, 114, 97, 99, 116, 105, 111, 110, 115, 32, 97, 110, 97, 108, 101, 109, 109, 97, 47, 97, 110, 97, 108, 101, 109, 109, 97, 108, 97, 119, 48, 51, 46, 68, 105, 118, 105, 100, 101, 76, 111, 119, 101, 115, 116, 32, 97, 110, 97, 108, 101, 109, 109, 97, 47, 97, 110, 97, 108, 101, 109, 109, 97, 108, 97, 119, 48, 54, 46, 67, 108, 111, 99, 107, 67, 111, 117, 110, 116, 115, 32, 97, 110, 97, 108, 101, 109, 109, 97, 47, 97, 110, 97, 108, 101, 109, 109, 97, 108, 97, 119, 48, 54, 46, 67, 108, 111, 99, 107, 65, 100, 100, 115, 32, 97, 110, 97, 108, 101, 109, 109, 97, 47, 97, 110, 97, 108, 101, 109, 109, 97, 108, 97, 119, 48, 54, 46, 67, 108, 111, 99, 107, 66, 97, 99, 107, 32, 97, 110, 97, 108, 101, 109, 109, 97, 47, 97, 110, 97, 108, 101, 109, 109, 97, 108, 97, 119, 48, 54, 46, 67, 108, 111, 99, 107, 82, 101, 103, 117, 108, 97, 116, 101, 115, 32, 97, 110, 97, 108, 101, 109, 109, 97, 47, 97, 110, 97, 108, 101, 109, 109, 97, 108, 97, 119, 48, 54, 46, 67, 108, 111, 99, 107, 79, 114, 100, 101, 114, 115, 32, 97, 110, 97, 108, 101, 109, 109, 97, 47, 97, 110, 97, 108, 101, 109, 109, 97, 108, 97, 119, 48, 52, 46, 82, 111, 117, 110, 100, 84, 111, 115, 32, 97, 110, 97, 108, 101, 109, 109, 97, 47, 97, 110, 97, 108, 101, 109, 109, 97, 108, 97, 119, 48, 52, 46, 82, 111, 117, 110, 100, 82, 97, 116, 105, 111, 115, 32, 97, 110, 97, 108, 101, 109, 109, 97, 47, 97, 110, 97, 108, 101, 109, 109, 97, 108, 97, 119, 48, 52, 46, 82, 111, 117, 110, 100, 65, 108, 108, 32, 97, 110, 97, 108, 101, 109, 109, 97, 47, 97, 110, 97, 108, 101, 109, 109, 97, 108, 97, 119, 48, 52, 46, 82, 111, 117, 110, 100, 77, 105, 114, 114, 111, 114, 115, 32, 97, 110, 97, 108, 101, 109, 109, 97, 47, 97, 110, 97, 108, 101, 109, 109, 97, 108, 97, 119, 48, 52, 46, 82, 111, 117, 110, 100, 78, 101, 97, 114, 32, 97, 110, 97, 108, 101, 109, 109, 97, 47, 97, 110, 97, 108, 101, 109, 109, 97, 108, 97, 119, 48, 52, 46, 82, 111, 117, 110, 100, 82, 105, 115, 101, 115, 32, 97, 110, 97, 108, 101, 109, 109, 97, 47, 97, 110, 97, 108, 101, 109, 109, 97, 108, 97, 119, 48, 54, 46, 67, 108, 111, 99, 107, 82, 111, 117, 110, 100, 115].map Char.ofNat
theorem head_order : Try.prog.initOrder = String.ofList (headA ++ Char.ofNat 32 :: (headB ++ Char.ofNat 32 :: (headC ++ Char.ofNat 32 :: headR))) := by kernel_rfl
theorem head_words : wordsSigns Try.prog.initOrder.toList = headA :: headB :: headC :: wordsSigns headR := by
  rw [head_order, String.toList_ofList, words_step _ (by kernel_rfl), words_step _ (by kernel_rfl), words_step _ (by kernel_rfl)]
theorem head_behind (R : List (List Char)) : behindMainWord (headA :: headB :: headC :: R) = headC :: R := by
  have e : ((headA == "harness".toList || headA == "ownmain".toList) && isSumSigns headB) = true := by kernel_rfl
  simp only [behindMainWord, e, if_true]
theorem head_strip (R : List (List Char)) : stripLifts liftWords (headC :: R) = ([], headC :: R) := by rfl
theorem make_of {P : Program} {R : List (List Char)} (h : behindMainWord (wordsSigns P.initOrder.toList) = headC :: R) : P.make = some .cut := by
  unfold Program.make
  rw [h]
  rfl
theorem lifts_of {P : Program} {R : List (List Char)} (h : behindMainWord (wordsSigns P.initOrder.toList) = headC :: R) : P.liftsFinal = false := by
  unfold Program.liftsFinal Program.headLifts
  rw [h]
  simp only [head_strip]
  rfl
theorem may_of {P : Program} {R : List (List Char)} (h : behindMainWord (wordsSigns P.initOrder.toList) = headC :: R) (h1 : P.laysLater = false) (h2 : P.bearsReflect = false) (h3 : P.doorFits [] = true) : P.mayEnter = true := by
  unfold Program.mayEnter
  rw [h]
  simp only [head_strip, h1, h2, h3]
  rfl
theorem head_is : behindMainWord (wordsSigns Try.prog.initOrder.toList) = headC :: wordsSigns headR := by
  rw [head_words, head_behind]
theorem head_make : Try.prog.make = some .cut := make_of head_is
theorem head_lifts : Try.prog.liftsFinal = false := lifts_of head_is
theorem head_may : Try.prog.mayEnter = true := may_of head_is (by kernel_rfl) (by kernel_rfl) (by kernel_rfl)
end Go.Proofs.Ytmkddcmfofabbaa
