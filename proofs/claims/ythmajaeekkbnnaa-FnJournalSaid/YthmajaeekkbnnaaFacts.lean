/-
  Closed facts of the program that the rows ask.
-/
import Derived.Test.YthmajaeekkbnnaaChecked
import Derived.JoinedOf
import Derived.KernelRfl
namespace Go.Proofs.Ythmajaeekkbnnaa
open Go
theorem own_ : ownKnob Try.prog.godebug = none := by kernel_rfl
theorem laid_ : laidOutB Try.prog = true := by kernel_rfl
theorem fc_maps : mapsRowed Try.prog = true := by kernel_rfl
theorem fc_heard : Try.prog.stopsHeard = true := by kernel_rfl
/-- The head's words, sign by sign. -/
def ioSigns : List Nat := [104, 97, 114, 110, 101, 115, 115, 32, 100, 50, 56, 57, 99, 48, 100, 102, 53, 53, 49, 52, 54, 101, 98, 51, 52, 49, 102, 54, 52, 55, 57, 55, 56, 50, 97, 53, 98, 99, 100, 54, 54, 55, 101, 97, 52, 55, 57, 99, 54, 55, 53, 51, 100, 98, 99, 51, 52, 53, 102, 49, 54, 97, 98, 53, 102, 51, 48, 49, 52, 57, 101, 54, 32, 99, 117, 116, 32, 97, 116, 32, 108, 111, 111, 112, 46, 101, 120, 97, 109, 112, 108, 101, 47, 103, 48, 48, 52, 53, 52, 47, 108, 97, 119, 115, 46, 70, 110, 69, 120, 97, 99, 116, 68, 117, 101, 70, 105, 114, 115, 116, 32, 108, 111, 111, 112, 46, 101, 120, 97, 109, 112, 108, 101, 47, 103, 48, 48, 52, 53, 52, 47, 108, 97, 119, 115, 46, 70, 110, 69, 120, 97, 99, 116, 82, 101, 99, 111, 114, 100, 79, 107, 32, 108, 111, 111, 112, 46, 101, 120, 97, 109, 112, 108, 101, 47, 103, 48, 48, 52, 53, 52, 47, 108, 97, 119, 115, 46, 70, 110, 69, 120, 97, 99, 116, 72, 101, 97, 112, 79, 107, 32, 108, 111, 111, 112, 46, 101, 120, 97, 109, 112, 108, 101, 47, 103, 48, 48, 52, 53, 52, 47, 108, 97, 119, 115, 46, 70, 110, 69, 120, 97, 99, 116, 67, 109, 100, 79, 107, 32, 108, 111, 111, 112, 46, 101, 120, 97, 109, 112, 108, 101, 47, 103, 48, 48, 52, 53, 52, 47, 108, 97, 119, 115, 46, 70, 110, 69, 120, 97, 99, 116, 72, 101, 97, 112, 80, 117, 115, 104, 32, 108, 111, 111, 112, 46, 101, 120, 97, 109, 112, 108, 101, 47, 103, 48, 48, 52, 53, 52, 47, 108, 97, 119, 115, 46, 70, 110, 69, 120, 97, 99, 116, 72, 101, 97, 112, 79, 102, 32, 108, 111, 111, 112, 46, 101, 120, 97, 109, 112, 108, 101, 47, 103, 48, 48, 52, 53, 52, 47, 108, 97, 119, 115, 46, 70, 110, 69, 120, 97, 99, 116, 72, 101, 97, 112, 80, 111, 112, 32, 108, 111, 111, 112, 46, 101, 120, 97, 109, 112, 108, 101, 47, 103, 48, 48, 52, 53, 52, 47, 108, 97, 119, 115, 46, 70, 110, 69, 120, 97, 99, 116, 67, 109, 100, 84, 101, 120, 116, 32, 108, 111, 111, 112, 46, 101, 120, 97, 109, 112, 108, 101, 47, 103, 48, 48, 52, 53, 52, 47, 108, 97, 119, 115, 46, 70, 110, 69, 120, 97, 99, 116, 82, 101, 97, 100, 82, 101, 99, 111, 114, 100, 115, 32, 108, 111, 111, 112, 46, 101, 120, 97, 109, 112, 108, 101, 47, 103, 48, 48, 52, 53, 52, 47, 108, 97, 119, 115, 46, 70, 110, 69, 120, 97, 99, 116, 74, 111, 117, 114, 110, 97, 108, 79, 107, 32, 108, 111, 111, 112, 46, 101, 120, 97, 109, 112, 108, 101, 47, 103, 48, 48, 52, 53, 52, 47, 108, 97, 119, 115, 46, 70, 110, 69, 120, 97, 99, 116, 72, 101, 97, 112, 65, 108, 108, 32, 108, 111, 111, 112, 46, 101, 120, 97, 109, 112, 108, 101, 47, 103, 48, 48, 52, 53, 52, 47, 108, 97, 119, 115, 46, 70, 110, 69, 120, 97, 99, 116, 74, 111, 117, 114, 110, 97, 108, 79, 112, 101, 110, 32, 108, 111, 111, 112, 46, 101, 120, 97, 109, 112, 108, 101, 47, 103, 48, 48, 52, 53, 52, 47, 108, 97, 119, 115, 46, 70, 110, 72, 101, 97, 112, 32, 108, 111, 111, 112, 46, 101, 120, 97, 109, 112, 108, 101, 47, 103, 48, 48, 52, 53, 52, 47, 108, 97, 119, 115, 46, 70, 110, 69, 120, 97, 99, 116, 74, 111, 117, 114, 110, 97, 108, 67, 114, 97, 115, 104, 32, 108, 111, 111, 112, 46, 101, 120, 97, 109, 112, 108, 101, 47, 103, 48, 48, 52, 53, 52, 47, 108, 97, 119, 115, 46, 70, 110, 69, 120, 97, 99, 116, 74, 111, 117, 114, 110, 97, 108, 83, 121, 110, 99, 32, 108, 111, 111, 112, 46, 101, 120, 97, 109, 112, 108, 101, 47, 103, 48, 48, 52, 53, 52, 47, 108, 97, 119, 115, 46, 70, 110, 69, 120, 97, 99, 116, 83, 116, 101, 112, 84, 101, 120, 116, 32, 108, 111, 111, 112, 46, 101, 120, 97, 109, 112, 108, 101, 47, 103, 48, 48, 52, 53, 52, 47, 108, 97, 119, 115, 46, 70, 110, 69, 120, 97, 99, 116, 74, 111, 117, 114, 110, 97, 108, 65, 100, 100, 32, 108, 111, 111, 112, 46, 101, 120, 97, 109, 112, 108, 101, 47, 103, 48, 48, 52, 53, 52, 47, 108, 97, 119, 115, 46, 70, 110, 74, 111, 117, 114, 110, 97, 108, 32, 108, 111, 111, 112, 46, 101, 120, 97, 109, 112, 108, 101, 47, 103, 48, 48, 52, 53, 52, 47, 108, 97, 119, 115, 46, 70, 110, 67, 109, 100, 32, 108, 111, 111, 112, 46, 101, 120, 97, 109, 112, 108, 101, 47, 103, 48, 48, 52, 53, 52, 47, 108, 97, 119, 115, 46, 70, 110, 69, 120, 97, 99, 116, 84, 101, 120, 116, 67, 109, 100, 32, 108, 111, 111, 112, 46, 101, 120, 97, 109, 112, 108, 101, 47, 103, 48, 48, 52, 53, 52, 47, 108, 97, 119, 115, 46, 70, 110, 69, 120, 97, 99, 116, 84, 101, 120, 116, 83, 116, 101, 112, 32, 108, 111, 111, 112, 46, 101, 120, 97, 109, 112, 108, 101, 47, 103, 48, 48, 52, 53, 52, 47, 108, 97, 119, 115, 46, 70, 110, 83, 116, 101, 112]
theorem fc_order : Try.prog.initOrder = String.ofList (ioSigns.map Char.ofNat) := by
  unfold Try.prog Try.progTables
  dsimp only
  kernel_rfl
theorem fc_signs : Try.prog.initOrder.toList = ioSigns.map Char.ofNat := by rw [fc_order, String.toList_ofList]
/-- The words behind the head. -/
def ioWords : List (List Char) := behindMainWord (wordsSigns (ioSigns.map Char.ofNat))
theorem make_of (P : Program) (l : List Char) (h : P.initOrder.toList = l) (hw : (behindMainWord (wordsSigns l)).head? = some "cut".toList) : P.make = some .cut := by
  unfold Program.make
  rw [h]
  generalize behindMainWord (wordsSigns l) = W at hw
  cases W with
  | nil => cases hw
  | cons c rest =>
    simp only [List.head?_cons, Option.some.injEq] at hw
    subst hw
    rfl
theorem fc_make (m : Make) (h : m = .cut) : (Try.prog.make == some m) = true := by
  subst h
  rw [make_of Try.prog _ fc_signs (by kernel_rfl)]
  rfl
theorem mayEnter_of (P : Program) (l : List Char) (h : P.initOrder.toList = l) (h2 : (stripLifts liftWords (behindMainWord (wordsSigns l))).2.head? = some "cut".toList)
    (h3 : (stripLifts liftWords (behindMainWord (wordsSigns l))).1 = []) (hw : (behindMainWord (wordsSigns l)).head? = some "cut".toList)
    (h4 : P.laysLater = false) (h5 : P.bearsReflect = false) (h6 : P.doorFits [] = true) : P.mayEnter = true := by
  unfold Program.mayEnter
  rw [h]
  generalize behindMainWord (wordsSigns l) = W at hw h2 h3
  cases W with
  | nil => cases hw
  | cons c rest => simp only [h2, h3, h4, h5, h6]; simp
theorem fc_mayEnter : Try.prog.mayEnter = true :=
  mayEnter_of Try.prog _ fc_signs (by kernel_rfl) (by kernel_rfl) (by kernel_rfl) (by kernel_rfl) (by kernel_rfl) (by kernel_rfl)
theorem lifts_of (P : Program) (l : List Char) (h : P.initOrder.toList = l) (h2 : (stripLifts liftWords (behindMainWord (wordsSigns l))).1 = []) (hw : (behindMainWord (wordsSigns l)).head? = some "cut".toList) : P.liftsFinal = false := by
  unfold Program.liftsFinal Program.headLifts
  rw [h]
  simp [hw, h2]
theorem fc_lifts (b : Bool) (h : b = false) : (b == Try.prog.liftsFinal) = true := by
  rw [lifts_of Try.prog _ fc_signs (by kernel_rfl) (by kernel_rfl), h]
  rfl
end Go.Proofs.Ythmajaeekkbnnaa
