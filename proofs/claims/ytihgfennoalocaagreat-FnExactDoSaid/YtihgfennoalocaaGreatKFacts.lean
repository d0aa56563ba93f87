/-
  Closed facts of the program that the rows ask.
-/
import Derived.Test.YtihgfennoalocaaGreatChecked
import Derived.JoinedOf
import Derived.KernelRfl
set_option maxRecDepth 100000
set_option maxHeartbeats 16000000
namespace Go.Proofs.YtihgfennoalocaaGreat
open Go
theorem own_:ownKnob Tryz.prog.godebug=none:=by kernel_rfl
theorem QgJ:laidOutB Tryz.prog=true:=by kernel_rfl
theorem QfB:mapsRowed Tryz.prog=true:=by kernel_rfl
theorem Qb7:Tryz.prog.stopsHeard=true:=by kernel_rfl
def Qje:List Nat:=[104,97,114,110,101,115,115,32,54,97,53,51,99,97,57,55,99,100,55,102,50,55,49,49,98,49,51,49,53,55,53,57,51,100,101,98,48,102,98,53,100,102,100,101,100,52,55,49,99,97,98,54,54,56,100,99,57,102,97,56,99,54,55,102,98,102,98,49,49,52,49,56,32,99,117,116,32,97,116,32,108,111,111,112,46,101,120,97,109,112,108,101,47,103,48,48,52,53,52,47,108,97,119,115,46,70,110,69,120,97,99,116,67,116,108,79,107,32,108,111,111,112,46,101,120,97,109,112,108,101,47,103,48,48,52,53,52,47,108,97,119,115,46,70,110,69,120,97,99,116,87,111,114,108,100,79,107,32,108,111,111,112,46,101,120,97,109,112,108,101,47,103,48,48,52,53,52,47,108,97,119,115,46,70,110,69,120,97,99,116,84,111,114,110,32,108,111,111,112,46,101,120,97,109,112,108,101,47,103,48,48,52,53,52,47,108,97,119,115,46,70,110,69,120,97,99,116,70,111,117,110,100,32,108,111,111,112,46,101,120,97,109,112,108,101,47,103,48,48,52,53,52,47,108,97,119,115,46,70,110,69,120,97,99,116,84,97,107,101,32,108,111,111,112,46,101,120,97,109,112,108,101,47,103,48,48,52,53,52,47,108,97,119,115,46,70,110,69,120,97,99,116,68,111,32,108,111,111,112,46,101,120,97,109,112,108,101,47,103,48,48,52,53,52,47,108,97,119,115,46,70,110,69,120,97,99,116,80,101,114,102,111,114,109,32,108,111,111,112,46,101,120,97,109,112,108,101,47,103,48,48,52,53,52,47,108,97,119,115,46,70,110,69,120,97,99,116,80,108,97,121]
theorem Qrm:Tryz.prog.initOrder=String.ofList (Qje.map Char.ofNat):=by
 unfold Tryz.prog Tryz.progTables
 dsimp only
 kernel_rfl
theorem QgB:Tryz.prog.initOrder.toList=Qje.map Char.ofNat:=by rw[Qrm,String.toList_ofList]
def Qvf:List (List Char):=behindMainWord (wordsSigns (Qje.map Char.ofNat))
theorem QsQ (P : Program) (l : List Char) (h : P.initOrder.toList = l) (hw : (behindMainWord (wordsSigns l)).head? = some "cut".toList) : P.make = some .cut := by
 unfold Program.make
 rw[h]
 generalize behindMainWord (wordsSigns l)=W at hw
 cases W with
 | nil=>cases hw
 | cons c rest=>
  simp only[List.head?_cons,Option.some.injEq]at hw
  subst hw
  rfl
theorem Qf6(m:Make)(h:m=.cut):(Tryz.prog.make==some m)=true:=by
 subst h
 rw[QsQ Tryz.prog _ QgB (by kernel_rfl)]
 rfl
theorem Qji (P : Program) (l : List Char) (h : P.initOrder.toList = l) (h2 : (stripLifts liftWords (behindMainWord (wordsSigns l))).2.head? = some "cut".toList)
  (h3 : (stripLifts liftWords (behindMainWord (wordsSigns l))).1 = []) (hw : (behindMainWord (wordsSigns l)).head? = some "cut".toList)
  (h4:P.laysLater=false) (h5:P.bearsReflect=false) (h6:P.doorFits []=true):P.mayEnter=true:=by
 unfold Program.mayEnter
 rw[h]
 generalize behindMainWord (wordsSigns l)=W at hw h2 h3
 cases W with
 | nil=>cases hw
 | cons c rest=>simp only[h2,h3,h4,h5,h6];simp
theorem V4:Tryz.prog.mayEnter=true:=
 Qji Tryz.prog _ QgB (by kernel_rfl) (by kernel_rfl) (by kernel_rfl) (by kernel_rfl) (by kernel_rfl) (by kernel_rfl)
theorem Qrl (P : Program) (l : List Char) (h : P.initOrder.toList = l) (h2 : (stripLifts liftWords (behindMainWord (wordsSigns l))).1 = []) (hw : (behindMainWord (wordsSigns l)).head? = some "cut".toList) : P.liftsFinal = false := by
 unfold Program.liftsFinal Program.headLifts
 rw[h]
 simp[hw,h2]
theorem Qcr(b:Bool)(h:b=false):(b==Tryz.prog.liftsFinal)=true:=by
 rw[Qrl Tryz.prog _ QgB (by kernel_rfl) (by kernel_rfl),h]
 rfl
end Go.Proofs.YtihgfennoalocaaGreat
