/-
  Closed facts of the program that the rows ask.
-/
import Derived.Test.YtelbahebpmkfjaaGreatChecked
import Derived.JoinedOf
import Derived.KernelRfl
set_option maxRecDepth 100000
set_option maxHeartbeats 16000000
namespace Go.Proofs.YtelbahebpmkfjaaGreat
open Go
theorem own_:ownKnob Tryz.prog.godebug=none:=by kernel_rfl
theorem Qla:laidOutB Tryz.prog=true:=by kernel_rfl
theorem Qj9:mapsRowed Tryz.prog=true:=by kernel_rfl
theorem Qho:Tryz.prog.stopsHeard=true:=by kernel_rfl
def QmN:List Nat:=[104,97,114,110,101,115,115,32,55,99,54,101,98,49,98,102,55,99,53,51,52,52,49,99,102,49,53,52,50,99,101,98,56,52,49,51,99,101,99,55,55,50,56,54,55,52,50,55,52,97,51,52,55,51,54,52,55,102,50,53,51,51,99,48,50,55,57,50,51,50,101,48,32,99,117,116,32,97,116,32,108,111,111,112,46,101,120,97,109,112,108,101,47,103,48,48,52,53,52,47,108,97,119,115,46,70,110,69,120,97,99,116,87,111,114,108,100,78,101,119,32,108,111,111,112,46,101,120,97,109,112,108,101,47,103,48,48,52,53,52,47,108,97,119,115,46,70,110,69,120,97,99,116,82,101,112,111,114,116,32,108,111,111,112,46,101,120,97,109,112,108,101,47,103,48,48,52,53,52,47,108,97,119,115,46,70,110,69,120,97,99,116,85,110,116,105,108,32,108,111,111,112,46,101,120,97,109,112,108,101,47,103,48,48,52,53,52,47,108,97,119,115,46,70,110,69,120,97,99,116,65,112,112,108,121,32,108,111,111,112,46,101,120,97,109,112,108,101,47,103,48,48,52,53,52,47,108,97,119,115,46,70,110,69,120,97,99,116,67,116,108,79,107,32,108,111,111,112,46,101,120,97,109,112,108,101,47,103,48,48,52,53,52,47,108,97,119,115,46,70,110,69,120,97,99,116,87,111,114,108,100,79,107,32,108,111,111,112,46,101,120,97,109,112,108,101,47,103,48,48,52,53,52,47,108,97,119,115,46,70,110,69,120,97,99,116,84,111,114,110,32,108,111,111,112,46,101,120,97,109,112,108,101,47,103,48,48,52,53,52,47,108,97,119,115,46,70,110,69,120,97,99,116,70,111,117,110,100,32,108,111,111,112,46,101,120,97,109,112,108,101,47,103,48,48,52,53,52,47,108,97,119,115,46,70,110,69,120,97,99,116,84,97,107,101,32,108,111,111,112,46,101,120,97,109,112,108,101,47,103,48,48,52,53,52,47,108,97,119,115,46,70,110,69,120,97,99,116,68,111,32,108,111,111,112,46,101,120,97,109,112,108,101,47,103,48,48,52,53,52,47,108,97,119,115,46,70,110,69,120,97,99,116,80,101,114,102,111,114,109,32,108,111,111,112,46,101,120,97,109,112,108,101,47,103,48,48,52,53,52,47,108,97,119,115,46,70,110,69,120,97,99,116,80,108,97,121]
theorem QsJ:Tryz.prog.initOrder=String.ofList (QmN.map Char.ofNat):=by
 unfold Tryz.prog Tryz.progTables
 dsimp only
 kernel_rfl
theorem Qku:Tryz.prog.initOrder.toList=QmN.map Char.ofNat:=by rw [QsJ,String.toList_ofList]
def QxW:List (List Char):=behindMainWord (wordsSigns (QmN.map Char.ofNat))
theorem Qvi (P : Program) (l : List Char) (h : P.initOrder.toList = l) (hw : (behindMainWord (wordsSigns l)).head? = some "cut".toList) : P.make = some .cut := by
 unfold Program.make
 rw [h]
 generalize behindMainWord (wordsSigns l)=W at hw
 cases W with
 | nil=>cases hw
 | cons c rest=>
  simp only [List.head?_cons,Option.some.injEq] at hw
  subst hw
  rfl
theorem QjZ (m:Make) (h:m=.cut):(Tryz.prog.make==some m)=true:=by
 subst h
 rw [Qvi Tryz.prog _ Qku (by kernel_rfl)]
 rfl
theorem Qmy (P : Program) (l : List Char) (h : P.initOrder.toList = l) (h2 : (stripLifts liftWords (behindMainWord (wordsSigns l))).2.head? = some "cut".toList)
  (h3 : (stripLifts liftWords (behindMainWord (wordsSigns l))).1 = []) (hw : (behindMainWord (wordsSigns l)).head? = some "cut".toList)
  (h4:P.laysLater=false) (h5:P.bearsReflect=false) (h6:P.doorFits []=true):P.mayEnter=true:=by
 unfold Program.mayEnter
 rw [h]
 generalize behindMainWord (wordsSigns l)=W at hw h2 h3
 cases W with
 | nil=>cases hw
 | cons c rest=>simp only [h2,h3,h4,h5,h6];simp
theorem Qeo:Tryz.prog.mayEnter=true:=
 Qmy Tryz.prog _ Qku (by kernel_rfl) (by kernel_rfl) (by kernel_rfl) (by kernel_rfl) (by kernel_rfl) (by kernel_rfl)
theorem QuD (P : Program) (l : List Char) (h : P.initOrder.toList = l) (h2 : (stripLifts liftWords (behindMainWord (wordsSigns l))).1 = []) (hw : (behindMainWord (wordsSigns l)).head? = some "cut".toList) : P.liftsFinal = false := by
 unfold Program.liftsFinal Program.headLifts
 rw [h]
 simp [hw,h2]
theorem QhB (b:Bool) (h:b=false):(b==Tryz.prog.liftsFinal)=true:=by
 rw [QuD Tryz.prog _ Qku (by kernel_rfl) (by kernel_rfl),h]
 rfl
end Go.Proofs.YtelbahebpmkfjaaGreat
