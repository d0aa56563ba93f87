/-
  Closed facts of the program that the rows ask.
-/
import Derived.Test.YtkdniahincpmaaaGreatChecked
import Derived.JoinedOf
import Derived.KernelRfl
set_option maxRecDepth 100000
set_option maxHeartbeats 16000000
namespace Go.Proofs.YtkdniahincpmaaaGreat
open Go
theorem own_:ownKnob Tryz.prog.godebug=none:=by kernel_rfl
theorem Qyb:laidOutB Tryz.prog=true:=by kernel_rfl
theorem Qv3:mapsRowed Tryz.prog=true:=by kernel_rfl
theorem QtZ:Tryz.prog.stopsHeard=true:=by kernel_rfl
def Qkt:List Nat:=[104,97,114,110,101,115,115,32,49,99,98,54,52,53,97,52,52,101,99,49,98,97,102,53,53,100,51,55,49,97,101,55,49,53,99,99,53,53,97,53,57,101,97,51,100,101,57,56,54,52,98,50,97,56,52,57,50,50,99,102,98,98,56,101,101,49,97,52,52,102,100,98,32,99,117,116,32,97,116,32,108,111,111,112,46,101,120,97,109,112,108,101,47,103,48,48,52,53,52,47,108,97,119,115,46,70,110,84,111,114,110,32,108,111,111,112,46,101,120,97,109,112,108,101,47,103,48,48,52,53,52,47,108,97,119,115,46,70,110,84,111,112,32,108,111,111,112,46,101,120,97,109,112,108,101,47,103,48,48,52,53,52,47,108,97,119,115,46,70,110,83,112,108,105,116,32,108,111,111,112,46,101,120,97,109,112,108,101,47,103,48,48,52,53,52,47,108,97,119,115,46,70,110,69,120,97,99,116,80,108,97,121]
theorem QtS:Tryz.prog.initOrder=String.ofList (Qkt.map Char.ofNat):=by
 unfold Tryz.prog Tryz.progTables
 dsimp only
 kernel_rfl
theorem QgD:Tryz.prog.initOrder.toList=Qkt.map Char.ofNat:=by rw[QtS,String.toList_ofList]
def Qyj:List (List Char):=behindMainWord (wordsSigns (Qkt.map Char.ofNat))
theorem Qv1 (P : Program) (l : List Char) (h : P.initOrder.toList = l) (hw : (behindMainWord (wordsSigns l)).head? = some "cut".toList) : P.make = some .cut := by
 unfold Program.make
 rw[h]
 generalize behindMainWord (wordsSigns l)=W at hw
 cases W with
 | nil=>cases hw
 | cons c rest=>
  simp only[List.head?_cons,Option.some.injEq]at hw
  subst hw
  rfl
theorem Qvk(m:Make)(h:m=.cut):(Tryz.prog.make==some m)=true:=by
 subst h
 rw[Qv1 Tryz.prog _ QgD (by kernel_rfl)]
 rfl
theorem QkB (P : Program) (l : List Char) (h : P.initOrder.toList = l) (h2 : (stripLifts liftWords (behindMainWord (wordsSigns l))).2.head? = some "cut".toList)
  (h3 : (stripLifts liftWords (behindMainWord (wordsSigns l))).1 = []) (hw : (behindMainWord (wordsSigns l)).head? = some "cut".toList)
  (h4:P.laysLater=false) (h5:P.bearsReflect=false) (h6:P.doorFits []=true):P.mayEnter=true:=by
 unfold Program.mayEnter
 rw[h]
 generalize behindMainWord (wordsSigns l)=W at hw h2 h3
 cases W with
 | nil=>cases hw
 | cons c rest=>simp only[h2,h3,h4,h5,h6];simp
theorem Qks:Tryz.prog.mayEnter=true:=
 QkB Tryz.prog _ QgD (by kernel_rfl) (by kernel_rfl) (by kernel_rfl) (by kernel_rfl) (by kernel_rfl) (by kernel_rfl)
theorem QsW (P : Program) (l : List Char) (h : P.initOrder.toList = l) (h2 : (stripLifts liftWords (behindMainWord (wordsSigns l))).1 = []) (hw : (behindMainWord (wordsSigns l)).head? = some "cut".toList) : P.liftsFinal = false := by
 unfold Program.liftsFinal Program.headLifts
 rw[h]
 simp[hw,h2]
theorem Qr4(b:Bool)(h:b=false):(b==Tryz.prog.liftsFinal)=true:=by
 rw[QsW Tryz.prog _ QgD (by kernel_rfl) (by kernel_rfl),h]
 rfl
end Go.Proofs.YtkdniahincpmaaaGreat
