/-
  The length of a list, with what is known of it.
-/
import Derived.Test.YtliopiphobopjaaGreatKSh
set_option maxRecDepth 100000
set_option maxHeartbeats 16000000
namespace Go.Proofs.YtliopiphobopjaaGreat
open Go Go.RowKit
theorem zln {X : Cx} {σ : AS} {o : Oper} {K : AS → Prop} {p R : Prop} (k : p → R) (h : (p → R) → OpOk X o σ K := by intro r; exact zgq (zk12 r)) : OpOk X o σ K := h k
end Go.Proofs.YtliopiphobopjaaGreat
