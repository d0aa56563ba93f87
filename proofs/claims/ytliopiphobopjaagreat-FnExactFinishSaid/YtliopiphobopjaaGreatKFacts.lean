/-
  Closed facts of the program that the rows ask.
-/
import Derived.Test.YtliopiphobopjaaGreatChecked
import Derived.JoinedOf
import Derived.KernelRfl
set_option maxRecDepth 100000
set_option maxHeartbeats 16000000
namespace Go.Proofs.YtliopiphobopjaaGreat
open Go
theorem own_ : ownKnob Tryz.prog.godebug = none := by kernel_rfl
theorem laid_ : laidOutB Tryz.prog = true := by kernel_rfl
theorem fc_maps : mapsRowed Tryz.prog = true := by kernel_rfl
theorem fc_heard : Tryz.prog.stopsHeard = true := by kernel_rfl
def ioSigns : List Nat := [104, 97, 114, 110, 101, 115, 115, 32, 54, 53, 49, 49, 51, 54, 101, 98, 56, 56, 52, 57, 55, 98, 52, 54, 100, 97, 50, 52, 51, 100, 51, 55, 98, 99, 97, 100, 98, 52, 57, 97, 99, 102, 51, 53, 97, 49, 97, 48, 56, 50, 53, 49, 97, 56, 102, 98, 97, 49, 51, 50, 54, 102, 100, 48, 49, 98, 102, 97, 52, 52, 54, 53, 32, 99, 117, 116, 32, 97, 116, 32, 108, 111, 111, 112, 46, 101, 120, 97, 109, 112, 108, 101, 47, 103, 48, 48, 52, 53, 52, 47, 108, 97, 119, 115, 46, 70, 110, 69, 120, 97, 99, 116, 85, 115, 101, 32, 108, 111, 111, 112, 46, 101, 120, 97, 109, 112, 108, 101, 47, 103, 48, 48, 52, 53, 52, 47, 108, 97, 119, 115, 46, 70, 110, 69, 120, 97, 99, 116, 83, 97, 109, 101, 83, 116, 97, 116, 101, 32, 108, 111, 111, 112, 46, 101, 120, 97, 109, 112, 108, 101, 47, 103, 48, 48, 52, 53, 52, 47, 108, 97, 119, 115, 46, 70, 110, 69, 120, 97, 99, 116, 68, 117, 101, 115, 79, 102, 32, 108, 111, 111, 112, 46, 101, 120, 97, 109, 112, 108, 101, 47, 103, 48, 48, 52, 53, 52, 47, 108, 97, 119, 115, 46, 70, 110, 69, 120, 97, 99, 116, 67, 116, 108, 78, 101, 119, 32, 108, 111, 111, 112, 46, 101, 120, 97, 109, 112, 108, 101, 47, 103, 48, 48, 52, 53, 52, 47, 108, 97, 119, 115, 46, 70, 110, 69, 120, 97, 99, 116, 87, 111, 114, 108, 100, 78, 101, 119, 32, 108, 111, 111, 112, 46, 101, 120, 97, 109, 112, 108, 101, 47, 103, 48, 48, 52, 53, 52, 47, 108, 97, 119, 115, 46, 70, 110, 69, 120, 97, 99, 116, 76, 97, 116, 101, 114, 32, 108, 111, 111, 112, 46, 101, 120, 97, 109, 112, 108, 101, 47, 103, 48, 48, 52, 53, 52, 47, 108, 97, 119, 115, 46, 70, 110, 69, 120, 97, 99, 116, 82, 101, 112, 111, 114, 116, 32, 108, 111, 111, 112, 46, 101, 120, 97, 109, 112, 108, 101, 47, 103, 48, 48, 52, 53, 52, 47, 108, 97, 119, 115, 46, 70, 110, 69, 120, 97, 99, 116, 83, 116, 97, 114, 116, 32, 108, 111, 111, 112, 46, 101, 120, 97, 109, 112, 108, 101, 47, 103, 48, 48, 52, 53, 52, 47, 108, 97, 119, 115, 46, 70, 110, 69, 120, 97, 99, 116, 82, 101, 115, 105, 122, 101, 32, 108, 111, 111, 112, 46, 101, 120, 97, 109, 112, 108, 101, 47, 103, 48, 48, 52, 53, 52, 47, 108, 97, 119, 115, 46, 70, 110, 69, 120, 97, 99, 116, 82, 101, 115, 117, 109, 101, 32, 108, 111, 111, 112, 46, 101, 120, 97, 109, 112, 108, 101, 47, 103, 48, 48, 52, 53, 52, 47, 108, 97, 119, 115, 46, 70, 110, 69, 120, 97, 99, 116, 83, 117, 98, 109, 105, 116, 32, 108, 111, 111, 112, 46, 101, 120, 97, 109, 112, 108, 101, 47, 103, 48, 48, 52, 53, 52, 47, 108, 97, 119, 115, 46, 70, 110, 69, 120, 97, 99, 116, 70, 97, 105, 108, 32, 108, 111, 111, 112, 46, 101, 120, 97, 109, 112, 108, 101, 47, 103, 48, 48, 52, 53, 52, 47, 108, 97, 119, 115, 46, 70, 110, 69, 120, 97, 99, 116, 70, 105, 110, 105, 115, 104, 32, 108, 111, 111, 112, 46, 101, 120, 97, 109, 112, 108, 101, 47, 103, 48, 48, 52, 53, 52, 47, 108, 97, 119, 115, 46, 70, 110, 69, 120, 97, 99, 116, 85, 110, 116, 105, 108, 32, 108, 111, 111, 112, 46, 101, 120, 97, 109, 112, 108, 101, 47, 103, 48, 48, 52, 53, 52, 47, 108, 97, 119, 115, 46, 70, 110, 69, 120, 97, 99, 116, 65, 112, 112, 108, 121]
theorem fc_order : Tryz.prog.initOrder = String.ofList (ioSigns.map Char.ofNat) := by
 unfold Tryz.prog Tryz.progTables
 dsimp only
 kernel_rfl
theorem fc_signs : Tryz.prog.initOrder.toList = ioSigns.map Char.ofNat := by rw [fc_order, String.toList_ofList]
def ioWords : List (List Char) := behindMainWord (wordsSigns (ioSigns.map Char.ofNat))
theorem make_of (P : Program) (l : List Char) (h : P.initOrder.toList = l) (hw : (behindMainWord (wordsSigns l)).head? = some "cut".toList) : P.make = some .cut := by
 unfold Program.make
 rw [h]
 generalize behindMainWord (wordsSigns l) = W at hw
 cases W with
 | nil => cases hw
 | cons c rest =>
  simp only [List.head?_cons, Option.some.injEq] at hw
  subst hw
  rfl
theorem fc_make (m : Make) (h : m = .cut) : (Tryz.prog.make == some m) = true := by
 subst h
 rw [make_of Tryz.prog _ fc_signs (by kernel_rfl)]
 rfl
theorem mayEnter_of (P : Program) (l : List Char) (h : P.initOrder.toList = l) (h2 : (stripLifts liftWords (behindMainWord (wordsSigns l))).2.head? = some "cut".toList)
  (h3 : (stripLifts liftWords (behindMainWord (wordsSigns l))).1 = []) (hw : (behindMainWord (wordsSigns l)).head? = some "cut".toList)
  (h4 : P.laysLater = false) (h5 : P.bearsReflect = false) (h6 : P.doorFits [] = true) : P.mayEnter = true := by
 unfold Program.mayEnter
 rw [h]
 generalize behindMainWord (wordsSigns l) = W at hw h2 h3
 cases W with
 | nil => cases hw
 | cons c rest => simp only [h2, h3, h4, h5, h6]; simp
theorem fc_mayEnter : Tryz.prog.mayEnter = true :=
 mayEnter_of Tryz.prog _ fc_signs (by kernel_rfl) (by kernel_rfl) (by kernel_rfl) (by kernel_rfl) (by kernel_rfl) (by kernel_rfl)
theorem lifts_of (P : Program) (l : List Char) (h : P.initOrder.toList = l) (h2 : (stripLifts liftWords (behindMainWord (wordsSigns l))).1 = []) (hw : (behindMainWord (wordsSigns l)).head? = some "cut".toList) : P.liftsFinal = false := by
 unfold Program.liftsFinal Program.headLifts
 rw [h]
 simp [hw, h2]
theorem fc_lifts (b : Bool) (h : b = false) : (b == Tryz.prog.liftsFinal) = true := by
 rw [lifts_of Tryz.prog _ fc_signs (by kernel_rfl) (by kernel_rfl), h]
 rfl
end Go.Proofs.YtliopiphobopjaaGreat
