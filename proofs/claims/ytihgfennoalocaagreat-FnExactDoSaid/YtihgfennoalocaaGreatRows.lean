/-
  No cell of these rows narrows 'for every input' (looked for: loops, veiled, ifaces, maps, wideKeys, modest, calm, conditions, laid).
  DERIVED. THE GIVEN ROWS OF THIS SEAT. 8 by the template 'for every input the law returns true; each argument reads behind the call as it read before'; 0 by the template 'total and deterministic' (their statements: YtihgfennoalocaaGreatTotals.lean).
  GIVEN WITH THE SEED: the statements are not yours to turn. If you find one false, say at which input.
  Laid BY PROGRAM, IN A SANDBOX (cutbox-rows.mjs): the forced cells as the released guide's own fill.sh prints them over the translation d396ce30fdb9772d… (all of the seat's roots in one cut). By AI agents, Wed Nov 11 2026. No macro, syntax, notation, axiom, sorry.
-/
import Derived.Test.YtihgfennoalocaaGreatChecked
import GoSem.Claim
import GoSem.ClaimJoined
import GoSem.ClaimMapViews
import Derived.JoinedTies
import Derived.KernelRfl
namespace Go.Proofs.YtihgfennoalocaaGreat
/- THE CELL 'sum', in the pinned program and in every row, IS THE sha256 OF THE DUMP (.gsa) THAT YtihgfennoalocaaGreatProg.lean LOADS. Nothing in Lean hashes anything: it is a label: what it is worth is what the hold of that sum in a sandbox is worth. -/
noncomputable def Tryz.pinned : Pinned := { name := "ytihgfennoalocaagreat", sum := "d396ce30fdb9772d1e738eb36b2575f37314b3d96288d4ccdaa13b20a342fc39", checked := Tryz.checked }
namespace Rows
def none {H : Type} : Left H := { results := [], args := [] }

/-- 'laws.FnExactCtlOk': WHATEVER THE INPUT: true; the input reads as it did. -/
def fnExactCtlOkSpec : ChangeSpec := { name := "fnExactCtlOk", fn := fun _ => fun
  | [d] => { results := [.lit (.bool true)], args := [d] }
  | _ => none }
def fnExactCtlOkRow : OpenClaim := { program := "ytihgfennoalocaagreat", sum := "d396ce30fdb9772d1e738eb36b2575f37314b3d96288d4ccdaa13b20a342fc39", func := "loop.example/g00454/laws.FnExactCtlOk", spec := "fnExactCtlOk", unfollowed := true, recurses := true, apart := false }
def FnExactCtlOkSaid : Prop := fnExactCtlOkRow.holds Tryz.pinned (OpenSpec.ofChange fnExactCtlOkSpec)

/-- ITS FALSE NEIGHBOUR: 'it returns false'. Refute it at one input. -/
def fnExactCtlOkWrong : ChangeSpec := { name := "fnExactCtlOk", fn := fun _ => fun
  | [d] => { results := [.lit (.bool false)], args := [d] }
  | _ => none }
def FnExactCtlOkWrongFalsely : Prop := fnExactCtlOkRow.holds Tryz.pinned (OpenSpec.ofChange fnExactCtlOkWrong)

/-- 'laws.FnExactWorldOk': WHATEVER THE INPUT: true; the input reads as it did. -/
def fnExactWorldOkSpec : ChangeSpec := { name := "fnExactWorldOk", fn := fun _ => fun
  | [d] => { results := [.lit (.bool true)], args := [d] }
  | _ => none }
def fnExactWorldOkRow : OpenClaim := { program := "ytihgfennoalocaagreat", sum := "d396ce30fdb9772d1e738eb36b2575f37314b3d96288d4ccdaa13b20a342fc39", func := "loop.example/g00454/laws.FnExactWorldOk", spec := "fnExactWorldOk", unfollowed := true, recurses := true, apart := false }
def FnExactWorldOkSaid : Prop := fnExactWorldOkRow.holds Tryz.pinned (OpenSpec.ofChange fnExactWorldOkSpec)

/-- ITS FALSE NEIGHBOUR: 'it returns false'. Refute it at one input. -/
def fnExactWorldOkWrong : ChangeSpec := { name := "fnExactWorldOk", fn := fun _ => fun
  | [d] => { results := [.lit (.bool false)], args := [d] }
  | _ => none }
def FnExactWorldOkWrongFalsely : Prop := fnExactWorldOkRow.holds Tryz.pinned (OpenSpec.ofChange fnExactWorldOkWrong)

/-- 'laws.FnExactTorn': WHATEVER THE INPUT: true; the input reads as it did. -/
def fnExactTornSpec : ChangeSpec := { name := "fnExactTorn", fn := fun _ => fun
  | [d1, d2, d3] => { results := [.lit (.bool true)], args := [d1, d2, d3] }
  | _ => none }
def fnExactTornRow : OpenClaim := { program := "ytihgfennoalocaagreat", sum := "d396ce30fdb9772d1e738eb36b2575f37314b3d96288d4ccdaa13b20a342fc39", func := "loop.example/g00454/laws.FnExactTorn", spec := "fnExactTorn", unfollowed := true, recurses := true, apart := false }
def FnExactTornSaid : Prop := fnExactTornRow.holds Tryz.pinned (OpenSpec.ofChange fnExactTornSpec)

/-- ITS FALSE NEIGHBOUR: 'it returns false'. Refute it at one input. -/
def fnExactTornWrong : ChangeSpec := { name := "fnExactTorn", fn := fun _ => fun
  | [d1, d2, d3] => { results := [.lit (.bool false)], args := [d1, d2, d3] }
  | _ => none }
def FnExactTornWrongFalsely : Prop := fnExactTornRow.holds Tryz.pinned (OpenSpec.ofChange fnExactTornWrong)

/-- 'laws.FnExactFound': WHATEVER THE INPUT: true; the input reads as it did. -/
def fnExactFoundSpec : ChangeSpec := { name := "fnExactFound", fn := fun _ => fun
  | [d1, d2] => { results := [.lit (.bool true)], args := [d1, d2] }
  | _ => none }
def fnExactFoundRow : OpenClaim := { program := "ytihgfennoalocaagreat", sum := "d396ce30fdb9772d1e738eb36b2575f37314b3d96288d4ccdaa13b20a342fc39", func := "loop.example/g00454/laws.FnExactFound", spec := "fnExactFound", unfollowed := true, recurses := true, apart := false }
def FnExactFoundSaid : Prop := fnExactFoundRow.holds Tryz.pinned (OpenSpec.ofChange fnExactFoundSpec)

/-- ITS FALSE NEIGHBOUR: 'it returns false'. Refute it at one input. -/
def fnExactFoundWrong : ChangeSpec := { name := "fnExactFound", fn := fun _ => fun
  | [d1, d2] => { results := [.lit (.bool false)], args := [d1, d2] }
  | _ => none }
def FnExactFoundWrongFalsely : Prop := fnExactFoundRow.holds Tryz.pinned (OpenSpec.ofChange fnExactFoundWrong)

/-- 'laws.FnExactTake': WHATEVER THE INPUT: true; the input reads as it did. -/
def fnExactTakeSpec : ChangeSpec := { name := "fnExactTake", fn := fun _ => fun
  | [d1, d2] => { results := [.lit (.bool true)], args := [d1, d2] }
  | _ => none }
def fnExactTakeRow : OpenClaim := { program := "ytihgfennoalocaagreat", sum := "d396ce30fdb9772d1e738eb36b2575f37314b3d96288d4ccdaa13b20a342fc39", func := "loop.example/g00454/laws.FnExactTake", spec := "fnExactTake", unfollowed := true, recurses := true, apart := false }
def FnExactTakeSaid : Prop := fnExactTakeRow.holds Tryz.pinned (OpenSpec.ofChange fnExactTakeSpec)

/-- ITS FALSE NEIGHBOUR: 'it returns false'. Refute it at one input. -/
def fnExactTakeWrong : ChangeSpec := { name := "fnExactTake", fn := fun _ => fun
  | [d1, d2] => { results := [.lit (.bool false)], args := [d1, d2] }
  | _ => none }
def FnExactTakeWrongFalsely : Prop := fnExactTakeRow.holds Tryz.pinned (OpenSpec.ofChange fnExactTakeWrong)

/-- 'laws.FnExactDo': WHATEVER THE INPUT: true; the input reads as it did. -/
def fnExactDoSpec : ChangeSpec := { name := "fnExactDo", fn := fun _ => fun
  | [d1, d2] => { results := [.lit (.bool true)], args := [d1, d2] }
  | _ => none }
def fnExactDoRow : OpenClaim := { program := "ytihgfennoalocaagreat", sum := "d396ce30fdb9772d1e738eb36b2575f37314b3d96288d4ccdaa13b20a342fc39", func := "loop.example/g00454/laws.FnExactDo", spec := "fnExactDo", unfollowed := true, recurses := true, apart := false }
def FnExactDoSaid : Prop := fnExactDoRow.holds Tryz.pinned (OpenSpec.ofChange fnExactDoSpec)

/-- ITS FALSE NEIGHBOUR: 'it returns false'. Refute it at one input. -/
def fnExactDoWrong : ChangeSpec := { name := "fnExactDo", fn := fun _ => fun
  | [d1, d2] => { results := [.lit (.bool false)], args := [d1, d2] }
  | _ => none }
def FnExactDoWrongFalsely : Prop := fnExactDoRow.holds Tryz.pinned (OpenSpec.ofChange fnExactDoWrong)

/-- 'laws.FnExactPerform': WHATEVER THE INPUT: true; the input reads as it did. -/
def fnExactPerformSpec : ChangeSpec := { name := "fnExactPerform", fn := fun _ => fun
  | [d] => { results := [.lit (.bool true)], args := [d] }
  | _ => none }
def fnExactPerformRow : OpenClaim := { program := "ytihgfennoalocaagreat", sum := "d396ce30fdb9772d1e738eb36b2575f37314b3d96288d4ccdaa13b20a342fc39", func := "loop.example/g00454/laws.FnExactPerform", spec := "fnExactPerform", unfollowed := true, recurses := true, apart := false }
def FnExactPerformSaid : Prop := fnExactPerformRow.holds Tryz.pinned (OpenSpec.ofChange fnExactPerformSpec)

/-- ITS FALSE NEIGHBOUR: 'it returns false'. Refute it at one input. -/
def fnExactPerformWrong : ChangeSpec := { name := "fnExactPerform", fn := fun _ => fun
  | [d] => { results := [.lit (.bool false)], args := [d] }
  | _ => none }
def FnExactPerformWrongFalsely : Prop := fnExactPerformRow.holds Tryz.pinned (OpenSpec.ofChange fnExactPerformWrong)

/-- 'laws.FnExactPlay': WHATEVER THE INPUT: true; the input reads as it did. -/
def fnExactPlaySpec : ChangeSpec := { name := "fnExactPlay", fn := fun _ => fun
  | [d1, d2] => { results := [.lit (.bool true)], args := [d1, d2] }
  | _ => none }
def fnExactPlayRow : OpenClaim := { program := "ytihgfennoalocaagreat", sum := "d396ce30fdb9772d1e738eb36b2575f37314b3d96288d4ccdaa13b20a342fc39", func := "loop.example/g00454/laws.FnExactPlay", spec := "fnExactPlay", unfollowed := true, recurses := true, apart := false }
def FnExactPlaySaid : Prop := fnExactPlayRow.holds Tryz.pinned (OpenSpec.ofChange fnExactPlaySpec)

/-- ITS FALSE NEIGHBOUR: 'it returns false'. Refute it at one input. -/
def fnExactPlayWrong : ChangeSpec := { name := "fnExactPlay", fn := fun _ => fun
  | [d1, d2] => { results := [.lit (.bool false)], args := [d1, d2] }
  | _ => none }
def FnExactPlayWrongFalsely : Prop := fnExactPlayRow.holds Tryz.pinned (OpenSpec.ofChange fnExactPlayWrong)

/- THE SECOND FORM. 'bulk': how many values and letters a reading holds, each counted each time it is reached (what is shared counts as often as it is met; a slice's spare places count too). A statement '..UptoSaid' is the law's where the arguments, and the package variables that the reading takes, are together of bulk at most 1048576: NARROWER than '..Said'. Prove '..Said' where nothing that the law and all that it calls make is longer than what came in: it says more and counts as full. Else prove '..UptoSaid'. A law counts once. -/
mutual
def uptoBulk {H : Type} : DataW H → Nat
  | .lit (.string bytes) => bytes.length + 1
  | .lit _ => 1
  | .nil => 1
  | .ptr d => uptoBulk d + 1
  | .slice elems spare => uptoBulkAll elems + uptoBulkAll spare + 1
  | .agg parts => uptoBulkAll parts + 1
  | .iface _ d => uptoBulk d + 1
  | .map entries => uptoBulkEntries entries + 1
  | .held _ => 1
def uptoBulkAll {H : Type} : List (DataW H) → Nat
  | [] => 0
  | d :: r => uptoBulk d + uptoBulkAll r
def uptoBulkEntries {H : Type} : List (Lit × DataW H) → Nat
  | [] => 0
  | x :: r => uptoBulkEntry x + uptoBulkEntries r
def uptoBulkEntry {H : Type} : Lit × DataW H → Nat
  | (.string bytes, d) => bytes.length + uptoBulk d + 1
  | (_, d) => uptoBulk d + 1
 end
def uptoSmall : (H : Type) → List (DataW H) → Bool := fun _ ds => decide (uptoBulkAll ds ≤ 1048576)
def OpenSpec.upto (s : _root_.Go.ChangeSpec) : _root_.Go.OpenSpec := { _root_.Go.OpenSpec.ofChange s with cond := some uptoSmall }

/-- 'laws.FnExactCtlOk', WHERE WHAT IT READS IS OF BULK AT MOST 1048576: true; the input reads as it did. -/
def fnExactCtlOkUptoRow : OpenClaim := { program := "ytihgfennoalocaagreat", sum := "d396ce30fdb9772d1e738eb36b2575f37314b3d96288d4ccdaa13b20a342fc39", func := "loop.example/g00454/laws.FnExactCtlOk", spec := "fnExactCtlOk", unfollowed := true, recurses := true, apart := false, narrowed := true }
def FnExactCtlOkUptoSaid : Prop := fnExactCtlOkUptoRow.holds Tryz.pinned (OpenSpec.upto fnExactCtlOkSpec)

/-- 'laws.FnExactWorldOk', WHERE WHAT IT READS IS OF BULK AT MOST 1048576: true; the input reads as it did. -/
def fnExactWorldOkUptoRow : OpenClaim := { program := "ytihgfennoalocaagreat", sum := "d396ce30fdb9772d1e738eb36b2575f37314b3d96288d4ccdaa13b20a342fc39", func := "loop.example/g00454/laws.FnExactWorldOk", spec := "fnExactWorldOk", unfollowed := true, recurses := true, apart := false, narrowed := true }
def FnExactWorldOkUptoSaid : Prop := fnExactWorldOkUptoRow.holds Tryz.pinned (OpenSpec.upto fnExactWorldOkSpec)

/-- 'laws.FnExactTorn', WHERE WHAT IT READS IS OF BULK AT MOST 1048576: true; the input reads as it did. -/
def fnExactTornUptoRow : OpenClaim := { program := "ytihgfennoalocaagreat", sum := "d396ce30fdb9772d1e738eb36b2575f37314b3d96288d4ccdaa13b20a342fc39", func := "loop.example/g00454/laws.FnExactTorn", spec := "fnExactTorn", unfollowed := true, recurses := true, apart := false, narrowed := true }
def FnExactTornUptoSaid : Prop := fnExactTornUptoRow.holds Tryz.pinned (OpenSpec.upto fnExactTornSpec)

/-- 'laws.FnExactFound', WHERE WHAT IT READS IS OF BULK AT MOST 1048576: true; the input reads as it did. -/
def fnExactFoundUptoRow : OpenClaim := { program := "ytihgfennoalocaagreat", sum := "d396ce30fdb9772d1e738eb36b2575f37314b3d96288d4ccdaa13b20a342fc39", func := "loop.example/g00454/laws.FnExactFound", spec := "fnExactFound", unfollowed := true, recurses := true, apart := false, narrowed := true }
def FnExactFoundUptoSaid : Prop := fnExactFoundUptoRow.holds Tryz.pinned (OpenSpec.upto fnExactFoundSpec)

/-- 'laws.FnExactTake', WHERE WHAT IT READS IS OF BULK AT MOST 1048576: true; the input reads as it did. -/
def fnExactTakeUptoRow : OpenClaim := { program := "ytihgfennoalocaagreat", sum := "d396ce30fdb9772d1e738eb36b2575f37314b3d96288d4ccdaa13b20a342fc39", func := "loop.example/g00454/laws.FnExactTake", spec := "fnExactTake", unfollowed := true, recurses := true, apart := false, narrowed := true }
def FnExactTakeUptoSaid : Prop := fnExactTakeUptoRow.holds Tryz.pinned (OpenSpec.upto fnExactTakeSpec)

/-- 'laws.FnExactDo', WHERE WHAT IT READS IS OF BULK AT MOST 1048576: true; the input reads as it did. -/
def fnExactDoUptoRow : OpenClaim := { program := "ytihgfennoalocaagreat", sum := "d396ce30fdb9772d1e738eb36b2575f37314b3d96288d4ccdaa13b20a342fc39", func := "loop.example/g00454/laws.FnExactDo", spec := "fnExactDo", unfollowed := true, recurses := true, apart := false, narrowed := true }
def FnExactDoUptoSaid : Prop := fnExactDoUptoRow.holds Tryz.pinned (OpenSpec.upto fnExactDoSpec)

/-- 'laws.FnExactPerform', WHERE WHAT IT READS IS OF BULK AT MOST 1048576: true; the input reads as it did. -/
def fnExactPerformUptoRow : OpenClaim := { program := "ytihgfennoalocaagreat", sum := "d396ce30fdb9772d1e738eb36b2575f37314b3d96288d4ccdaa13b20a342fc39", func := "loop.example/g00454/laws.FnExactPerform", spec := "fnExactPerform", unfollowed := true, recurses := true, apart := false, narrowed := true }
def FnExactPerformUptoSaid : Prop := fnExactPerformUptoRow.holds Tryz.pinned (OpenSpec.upto fnExactPerformSpec)

/-- 'laws.FnExactPlay', WHERE WHAT IT READS IS OF BULK AT MOST 1048576: true; the input reads as it did. -/
def fnExactPlayUptoRow : OpenClaim := { program := "ytihgfennoalocaagreat", sum := "d396ce30fdb9772d1e738eb36b2575f37314b3d96288d4ccdaa13b20a342fc39", func := "loop.example/g00454/laws.FnExactPlay", spec := "fnExactPlay", unfollowed := true, recurses := true, apart := false, narrowed := true }
def FnExactPlayUptoSaid : Prop := fnExactPlayUptoRow.holds Tryz.pinned (OpenSpec.upto fnExactPlaySpec)

end Rows
end Go.Proofs.YtihgfennoalocaaGreat
