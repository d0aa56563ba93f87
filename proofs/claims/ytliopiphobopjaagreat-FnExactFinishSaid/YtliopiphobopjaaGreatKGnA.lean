/-
  The law's functions over reservations: marks, equality with itself.
-/
import Derived.Test.YtliopiphobopjaaGreatKShL
import Derived.Test.YtliopiphobopjaaGreatKB10
import Derived.Test.YtliopiphobopjaaGreatKB16
set_option maxRecDepth 100000
set_option maxHeartbeats 16000000
namespace Go.Proofs.YtliopiphobopjaaGreat
open Go Go.RowKit
attribute [local irreducible] AWp OpsOk OpOk ACalls ChA QsOk MCalls EnC PY
def mH (k : Nat) (r : HeldS) : HeldS := ⟨(k : Int), ((k + 1 : Nat) : Int), markL (gI (k + 2)) r.nodes.length⟩
@[reducible] def wH (r : HeldS) : Nat := 2 + r.nodes.length
end Go.Proofs.YtliopiphobopjaaGreat
