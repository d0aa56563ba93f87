/-
  No cell of these rows narrows 'for every input' (looked for: loops, veiled, ifaces, maps, wideKeys, modest, calm, conditions, laid).
  DERIVED. THE GIVEN ROWS OF THIS SEAT. 15 by the template 'for every input the law returns true; each argument reads behind the call as it read before'; 0 by the template 'total and deterministic' (their statements: YtliopiphobopjaaGreatTotals.lean).
  GIVEN WITH THE SEED: the statements are not yours to turn. If you find one false, say at which input.
  Laid BY PROGRAM, IN A SANDBOX (cutbox-rows.mjs): the forced cells as the released guide's own fill.sh prints them over the translation d7d1c65575abfd75… (all of the seat's roots in one cut). By AI agents, Wed Nov 11 2026. No macro, syntax, notation, axiom, sorry.
-/
import Derived.Test.YtliopiphobopjaaGreatChecked
import GoSem.Claim
import GoSem.ClaimJoined
import GoSem.ClaimMapViews
import Derived.JoinedTies
import Derived.KernelRfl
namespace Go.Proofs.YtliopiphobopjaaGreat
/- THE CELL 'sum', in the pinned program and in every row, IS THE sha256 OF THE DUMP (.gsa) THAT YtliopiphobopjaaGreatProg.lean LOADS. Nothing in Lean hashes anything: it is a label: what it is worth is what the hold of that sum in a sandbox is worth. -/
noncomputable def Tryz.pinned : Pinned := { name := "ytliopiphobopjaagreat", sum := "d7d1c65575abfd755ef1c5821644fa19467fd72218141894585c63449899e24f", checked := Tryz.checked }
namespace Rows
def none {H : Type} : Left H := { results := [], args := [] }

/-- 'laws.FnExactUse': WHATEVER THE INPUT: true; the input reads as it did. -/
def fnExactUseSpec : ChangeSpec := { name := "fnExactUse", fn := fun _ => fun
  | [d1, d2] => { results := [.lit (.bool true)], args := [d1, d2] }
  | _ => none }
def fnExactUseRow : OpenClaim := { program := "ytliopiphobopjaagreat", sum := "d7d1c65575abfd755ef1c5821644fa19467fd72218141894585c63449899e24f", func := "loop.example/g00454/laws.FnExactUse", spec := "fnExactUse", unfollowed := true, recurses := true, apart := false }
def FnExactUseSaid : Prop := fnExactUseRow.holds Tryz.pinned (OpenSpec.ofChange fnExactUseSpec)

/-- ITS FALSE NEIGHBOUR: 'it returns false'. Refute it at one input. -/
def fnExactUseWrong : ChangeSpec := { name := "fnExactUse", fn := fun _ => fun
  | [d1, d2] => { results := [.lit (.bool false)], args := [d1, d2] }
  | _ => none }
def FnExactUseWrongFalsely : Prop := fnExactUseRow.holds Tryz.pinned (OpenSpec.ofChange fnExactUseWrong)

/-- 'laws.FnExactSameState': WHATEVER THE INPUT: true; the input reads as it did. -/
def fnExactSameStateSpec : ChangeSpec := { name := "fnExactSameState", fn := fun _ => fun
  | [d1, d2] => { results := [.lit (.bool true)], args := [d1, d2] }
  | _ => none }
def fnExactSameStateRow : OpenClaim := { program := "ytliopiphobopjaagreat", sum := "d7d1c65575abfd755ef1c5821644fa19467fd72218141894585c63449899e24f", func := "loop.example/g00454/laws.FnExactSameState", spec := "fnExactSameState", unfollowed := true, recurses := true, apart := false }
def FnExactSameStateSaid : Prop := fnExactSameStateRow.holds Tryz.pinned (OpenSpec.ofChange fnExactSameStateSpec)

/-- ITS FALSE NEIGHBOUR: 'it returns false'. Refute it at one input. -/
def fnExactSameStateWrong : ChangeSpec := { name := "fnExactSameState", fn := fun _ => fun
  | [d1, d2] => { results := [.lit (.bool false)], args := [d1, d2] }
  | _ => none }
def FnExactSameStateWrongFalsely : Prop := fnExactSameStateRow.holds Tryz.pinned (OpenSpec.ofChange fnExactSameStateWrong)

/-- 'laws.FnExactDuesOf': WHATEVER THE INPUT: true; the input reads as it did. -/
def fnExactDuesOfSpec : ChangeSpec := { name := "fnExactDuesOf", fn := fun _ => fun
  | [d] => { results := [.lit (.bool true)], args := [d] }
  | _ => none }
def fnExactDuesOfRow : OpenClaim := { program := "ytliopiphobopjaagreat", sum := "d7d1c65575abfd755ef1c5821644fa19467fd72218141894585c63449899e24f", func := "loop.example/g00454/laws.FnExactDuesOf", spec := "fnExactDuesOf", unfollowed := true, recurses := true, apart := false }
def FnExactDuesOfSaid : Prop := fnExactDuesOfRow.holds Tryz.pinned (OpenSpec.ofChange fnExactDuesOfSpec)

/-- ITS FALSE NEIGHBOUR: 'it returns false'. Refute it at one input. -/
def fnExactDuesOfWrong : ChangeSpec := { name := "fnExactDuesOf", fn := fun _ => fun
  | [d] => { results := [.lit (.bool false)], args := [d] }
  | _ => none }
def FnExactDuesOfWrongFalsely : Prop := fnExactDuesOfRow.holds Tryz.pinned (OpenSpec.ofChange fnExactDuesOfWrong)

/-- 'laws.FnExactCtlNew': WHATEVER THE INPUT: true; the input reads as it did. -/
def fnExactCtlNewSpec : ChangeSpec := { name := "fnExactCtlNew", fn := fun _ => fun
  | [d] => { results := [.lit (.bool true)], args := [d] }
  | _ => none }
def fnExactCtlNewRow : OpenClaim := { program := "ytliopiphobopjaagreat", sum := "d7d1c65575abfd755ef1c5821644fa19467fd72218141894585c63449899e24f", func := "loop.example/g00454/laws.FnExactCtlNew", spec := "fnExactCtlNew", unfollowed := true, recurses := true, apart := false }
def FnExactCtlNewSaid : Prop := fnExactCtlNewRow.holds Tryz.pinned (OpenSpec.ofChange fnExactCtlNewSpec)

/-- ITS FALSE NEIGHBOUR: 'it returns false'. Refute it at one input. -/
def fnExactCtlNewWrong : ChangeSpec := { name := "fnExactCtlNew", fn := fun _ => fun
  | [d] => { results := [.lit (.bool false)], args := [d] }
  | _ => none }
def FnExactCtlNewWrongFalsely : Prop := fnExactCtlNewRow.holds Tryz.pinned (OpenSpec.ofChange fnExactCtlNewWrong)

/-- 'laws.FnExactWorldNew': WHATEVER THE INPUT: true; the input reads as it did. -/
def fnExactWorldNewSpec : ChangeSpec := { name := "fnExactWorldNew", fn := fun _ => fun
  | [d] => { results := [.lit (.bool true)], args := [d] }
  | _ => none }
def fnExactWorldNewRow : OpenClaim := { program := "ytliopiphobopjaagreat", sum := "d7d1c65575abfd755ef1c5821644fa19467fd72218141894585c63449899e24f", func := "loop.example/g00454/laws.FnExactWorldNew", spec := "fnExactWorldNew", unfollowed := true, recurses := true, apart := false }
def FnExactWorldNewSaid : Prop := fnExactWorldNewRow.holds Tryz.pinned (OpenSpec.ofChange fnExactWorldNewSpec)

/-- ITS FALSE NEIGHBOUR: 'it returns false'. Refute it at one input. -/
def fnExactWorldNewWrong : ChangeSpec := { name := "fnExactWorldNew", fn := fun _ => fun
  | [d] => { results := [.lit (.bool false)], args := [d] }
  | _ => none }
def FnExactWorldNewWrongFalsely : Prop := fnExactWorldNewRow.holds Tryz.pinned (OpenSpec.ofChange fnExactWorldNewWrong)

/-- 'laws.FnExactLater': WHATEVER THE INPUT: true; the input reads as it did. -/
def fnExactLaterSpec : ChangeSpec := { name := "fnExactLater", fn := fun _ => fun
  | [d] => { results := [.lit (.bool true)], args := [d] }
  | _ => none }
def fnExactLaterRow : OpenClaim := { program := "ytliopiphobopjaagreat", sum := "d7d1c65575abfd755ef1c5821644fa19467fd72218141894585c63449899e24f", func := "loop.example/g00454/laws.FnExactLater", spec := "fnExactLater", unfollowed := true, recurses := true, apart := false }
def FnExactLaterSaid : Prop := fnExactLaterRow.holds Tryz.pinned (OpenSpec.ofChange fnExactLaterSpec)

/-- ITS FALSE NEIGHBOUR: 'it returns false'. Refute it at one input. -/
def fnExactLaterWrong : ChangeSpec := { name := "fnExactLater", fn := fun _ => fun
  | [d] => { results := [.lit (.bool false)], args := [d] }
  | _ => none }
def FnExactLaterWrongFalsely : Prop := fnExactLaterRow.holds Tryz.pinned (OpenSpec.ofChange fnExactLaterWrong)

/-- 'laws.FnExactReport': WHATEVER THE INPUT: true; the input reads as it did. -/
def fnExactReportSpec : ChangeSpec := { name := "fnExactReport", fn := fun _ => fun
  | [d] => { results := [.lit (.bool true)], args := [d] }
  | _ => none }
def fnExactReportRow : OpenClaim := { program := "ytliopiphobopjaagreat", sum := "d7d1c65575abfd755ef1c5821644fa19467fd72218141894585c63449899e24f", func := "loop.example/g00454/laws.FnExactReport", spec := "fnExactReport", unfollowed := true, recurses := true, apart := false }
def FnExactReportSaid : Prop := fnExactReportRow.holds Tryz.pinned (OpenSpec.ofChange fnExactReportSpec)

/-- ITS FALSE NEIGHBOUR: 'it returns false'. Refute it at one input. -/
def fnExactReportWrong : ChangeSpec := { name := "fnExactReport", fn := fun _ => fun
  | [d] => { results := [.lit (.bool false)], args := [d] }
  | _ => none }
def FnExactReportWrongFalsely : Prop := fnExactReportRow.holds Tryz.pinned (OpenSpec.ofChange fnExactReportWrong)

/-- 'laws.FnExactStart': WHATEVER THE INPUT: true; the input reads as it did. -/
def fnExactStartSpec : ChangeSpec := { name := "fnExactStart", fn := fun _ => fun
  | [d] => { results := [.lit (.bool true)], args := [d] }
  | _ => none }
def fnExactStartRow : OpenClaim := { program := "ytliopiphobopjaagreat", sum := "d7d1c65575abfd755ef1c5821644fa19467fd72218141894585c63449899e24f", func := "loop.example/g00454/laws.FnExactStart", spec := "fnExactStart", unfollowed := true, recurses := true, apart := false }
def FnExactStartSaid : Prop := fnExactStartRow.holds Tryz.pinned (OpenSpec.ofChange fnExactStartSpec)

/-- ITS FALSE NEIGHBOUR: 'it returns false'. Refute it at one input. -/
def fnExactStartWrong : ChangeSpec := { name := "fnExactStart", fn := fun _ => fun
  | [d] => { results := [.lit (.bool false)], args := [d] }
  | _ => none }
def FnExactStartWrongFalsely : Prop := fnExactStartRow.holds Tryz.pinned (OpenSpec.ofChange fnExactStartWrong)

/-- 'laws.FnExactResize': WHATEVER THE INPUT: true; the input reads as it did. -/
def fnExactResizeSpec : ChangeSpec := { name := "fnExactResize", fn := fun _ => fun
  | [d1, d2] => { results := [.lit (.bool true)], args := [d1, d2] }
  | _ => none }
def fnExactResizeRow : OpenClaim := { program := "ytliopiphobopjaagreat", sum := "d7d1c65575abfd755ef1c5821644fa19467fd72218141894585c63449899e24f", func := "loop.example/g00454/laws.FnExactResize", spec := "fnExactResize", unfollowed := true, recurses := true, apart := false }
def FnExactResizeSaid : Prop := fnExactResizeRow.holds Tryz.pinned (OpenSpec.ofChange fnExactResizeSpec)

/-- ITS FALSE NEIGHBOUR: 'it returns false'. Refute it at one input. -/
def fnExactResizeWrong : ChangeSpec := { name := "fnExactResize", fn := fun _ => fun
  | [d1, d2] => { results := [.lit (.bool false)], args := [d1, d2] }
  | _ => none }
def FnExactResizeWrongFalsely : Prop := fnExactResizeRow.holds Tryz.pinned (OpenSpec.ofChange fnExactResizeWrong)

/-- 'laws.FnExactResume': WHATEVER THE INPUT: true; the input reads as it did. -/
def fnExactResumeSpec : ChangeSpec := { name := "fnExactResume", fn := fun _ => fun
  | [d1, d2] => { results := [.lit (.bool true)], args := [d1, d2] }
  | _ => none }
def fnExactResumeRow : OpenClaim := { program := "ytliopiphobopjaagreat", sum := "d7d1c65575abfd755ef1c5821644fa19467fd72218141894585c63449899e24f", func := "loop.example/g00454/laws.FnExactResume", spec := "fnExactResume", unfollowed := true, recurses := true, apart := false }
def FnExactResumeSaid : Prop := fnExactResumeRow.holds Tryz.pinned (OpenSpec.ofChange fnExactResumeSpec)

/-- ITS FALSE NEIGHBOUR: 'it returns false'. Refute it at one input. -/
def fnExactResumeWrong : ChangeSpec := { name := "fnExactResume", fn := fun _ => fun
  | [d1, d2] => { results := [.lit (.bool false)], args := [d1, d2] }
  | _ => none }
def FnExactResumeWrongFalsely : Prop := fnExactResumeRow.holds Tryz.pinned (OpenSpec.ofChange fnExactResumeWrong)

/-- 'laws.FnExactSubmit': WHATEVER THE INPUT: true; the input reads as it did. -/
def fnExactSubmitSpec : ChangeSpec := { name := "fnExactSubmit", fn := fun _ => fun
  | [d1, d2] => { results := [.lit (.bool true)], args := [d1, d2] }
  | _ => none }
def fnExactSubmitRow : OpenClaim := { program := "ytliopiphobopjaagreat", sum := "d7d1c65575abfd755ef1c5821644fa19467fd72218141894585c63449899e24f", func := "loop.example/g00454/laws.FnExactSubmit", spec := "fnExactSubmit", unfollowed := true, recurses := true, apart := false }
def FnExactSubmitSaid : Prop := fnExactSubmitRow.holds Tryz.pinned (OpenSpec.ofChange fnExactSubmitSpec)

/-- ITS FALSE NEIGHBOUR: 'it returns false'. Refute it at one input. -/
def fnExactSubmitWrong : ChangeSpec := { name := "fnExactSubmit", fn := fun _ => fun
  | [d1, d2] => { results := [.lit (.bool false)], args := [d1, d2] }
  | _ => none }
def FnExactSubmitWrongFalsely : Prop := fnExactSubmitRow.holds Tryz.pinned (OpenSpec.ofChange fnExactSubmitWrong)

/-- 'laws.FnExactFail': WHATEVER THE INPUT: true; the input reads as it did. -/
def fnExactFailSpec : ChangeSpec := { name := "fnExactFail", fn := fun _ => fun
  | [d1, d2] => { results := [.lit (.bool true)], args := [d1, d2] }
  | _ => none }
def fnExactFailRow : OpenClaim := { program := "ytliopiphobopjaagreat", sum := "d7d1c65575abfd755ef1c5821644fa19467fd72218141894585c63449899e24f", func := "loop.example/g00454/laws.FnExactFail", spec := "fnExactFail", unfollowed := true, recurses := true, apart := false }
def FnExactFailSaid : Prop := fnExactFailRow.holds Tryz.pinned (OpenSpec.ofChange fnExactFailSpec)

/-- ITS FALSE NEIGHBOUR: 'it returns false'. Refute it at one input. -/
def fnExactFailWrong : ChangeSpec := { name := "fnExactFail", fn := fun _ => fun
  | [d1, d2] => { results := [.lit (.bool false)], args := [d1, d2] }
  | _ => none }
def FnExactFailWrongFalsely : Prop := fnExactFailRow.holds Tryz.pinned (OpenSpec.ofChange fnExactFailWrong)

/-- 'laws.FnExactFinish': WHATEVER THE INPUT: true; the input reads as it did. -/
def fnExactFinishSpec : ChangeSpec := { name := "fnExactFinish", fn := fun _ => fun
  | [d1, d2, d3] => { results := [.lit (.bool true)], args := [d1, d2, d3] }
  | _ => none }
def fnExactFinishRow : OpenClaim := { program := "ytliopiphobopjaagreat", sum := "d7d1c65575abfd755ef1c5821644fa19467fd72218141894585c63449899e24f", func := "loop.example/g00454/laws.FnExactFinish", spec := "fnExactFinish", unfollowed := true, recurses := true, apart := false }
def FnExactFinishSaid : Prop := fnExactFinishRow.holds Tryz.pinned (OpenSpec.ofChange fnExactFinishSpec)

/-- ITS FALSE NEIGHBOUR: 'it returns false'. Refute it at one input. -/
def fnExactFinishWrong : ChangeSpec := { name := "fnExactFinish", fn := fun _ => fun
  | [d1, d2, d3] => { results := [.lit (.bool false)], args := [d1, d2, d3] }
  | _ => none }
def FnExactFinishWrongFalsely : Prop := fnExactFinishRow.holds Tryz.pinned (OpenSpec.ofChange fnExactFinishWrong)

/-- 'laws.FnExactUntil': WHATEVER THE INPUT: true; the input reads as it did. -/
def fnExactUntilSpec : ChangeSpec := { name := "fnExactUntil", fn := fun _ => fun
  | [d1, d2] => { results := [.lit (.bool true)], args := [d1, d2] }
  | _ => none }
def fnExactUntilRow : OpenClaim := { program := "ytliopiphobopjaagreat", sum := "d7d1c65575abfd755ef1c5821644fa19467fd72218141894585c63449899e24f", func := "loop.example/g00454/laws.FnExactUntil", spec := "fnExactUntil", unfollowed := true, recurses := true, apart := false }
def FnExactUntilSaid : Prop := fnExactUntilRow.holds Tryz.pinned (OpenSpec.ofChange fnExactUntilSpec)

/-- ITS FALSE NEIGHBOUR: 'it returns false'. Refute it at one input. -/
def fnExactUntilWrong : ChangeSpec := { name := "fnExactUntil", fn := fun _ => fun
  | [d1, d2] => { results := [.lit (.bool false)], args := [d1, d2] }
  | _ => none }
def FnExactUntilWrongFalsely : Prop := fnExactUntilRow.holds Tryz.pinned (OpenSpec.ofChange fnExactUntilWrong)

/-- 'laws.FnExactApply': WHATEVER THE INPUT: true; the input reads as it did. -/
def fnExactApplySpec : ChangeSpec := { name := "fnExactApply", fn := fun _ => fun
  | [d1, d2] => { results := [.lit (.bool true)], args := [d1, d2] }
  | _ => none }
def fnExactApplyRow : OpenClaim := { program := "ytliopiphobopjaagreat", sum := "d7d1c65575abfd755ef1c5821644fa19467fd72218141894585c63449899e24f", func := "loop.example/g00454/laws.FnExactApply", spec := "fnExactApply", unfollowed := true, recurses := true, apart := false }
def FnExactApplySaid : Prop := fnExactApplyRow.holds Tryz.pinned (OpenSpec.ofChange fnExactApplySpec)

/-- ITS FALSE NEIGHBOUR: 'it returns false'. Refute it at one input. -/
def fnExactApplyWrong : ChangeSpec := { name := "fnExactApply", fn := fun _ => fun
  | [d1, d2] => { results := [.lit (.bool false)], args := [d1, d2] }
  | _ => none }
def FnExactApplyWrongFalsely : Prop := fnExactApplyRow.holds Tryz.pinned (OpenSpec.ofChange fnExactApplyWrong)

/- THE SECOND FORM. 'bulk': how many values and letters a reading holds, each counted each time it is reached (what is shared counts as often as it is met; a slice's spare places count too). A statement '..UptoSaid' is the law's where the arguments, and the package variables that the reading takes, are together of bulk at most 1048576: NARROWER than '..Said'. Prove '..Said' where nothing that the law and all that it calls make is longer than what came in: it says more and counts as full. Else prove '..UptoSaid'. A law counts once. -/
mutual
def uptoBulk {H : Type} : DataW H → Nat
  | .lit (.string bytes) => bytes.length + 1
  | .lit _ => 1
  | .nil => 1
  | .ptr d => uptoBulk d + 1
  | .slice elems spare => uptoBulkAll elems + uptoBulkAll spare + 1
  | .agg parts => uptoBulkAll parts + 1
  | .iface _ d => uptoBulk d + 1
  | .map entries => uptoBulkEntries entries + 1
  | .held _ => 1
def uptoBulkAll {H : Type} : List (DataW H) → Nat
  | [] => 0
  | d :: r => uptoBulk d + uptoBulkAll r
def uptoBulkEntries {H : Type} : List (Lit × DataW H) → Nat
  | [] => 0
  | x :: r => uptoBulkEntry x + uptoBulkEntries r
def uptoBulkEntry {H : Type} : Lit × DataW H → Nat
  | (.string bytes, d) => bytes.length + uptoBulk d + 1
  | (_, d) => uptoBulk d + 1
 end
def uptoSmall : (H : Type) → List (DataW H) → Bool := fun _ ds => decide (uptoBulkAll ds ≤ 1048576)
def OpenSpec.upto (s : _root_.Go.ChangeSpec) : _root_.Go.OpenSpec := { _root_.Go.OpenSpec.ofChange s with cond := some uptoSmall }

/-- 'laws.FnExactUse', WHERE WHAT IT READS IS OF BULK AT MOST 1048576: true; the input reads as it did. -/
def fnExactUseUptoRow : OpenClaim := { program := "ytliopiphobopjaagreat", sum := "d7d1c65575abfd755ef1c5821644fa19467fd72218141894585c63449899e24f", func := "loop.example/g00454/laws.FnExactUse", spec := "fnExactUse", unfollowed := true, recurses := true, apart := false, narrowed := true }
def FnExactUseUptoSaid : Prop := fnExactUseUptoRow.holds Tryz.pinned (OpenSpec.upto fnExactUseSpec)

/-- 'laws.FnExactSameState', WHERE WHAT IT READS IS OF BULK AT MOST 1048576: true; the input reads as it did. -/
def fnExactSameStateUptoRow : OpenClaim := { program := "ytliopiphobopjaagreat", sum := "d7d1c65575abfd755ef1c5821644fa19467fd72218141894585c63449899e24f", func := "loop.example/g00454/laws.FnExactSameState", spec := "fnExactSameState", unfollowed := true, recurses := true, apart := false, narrowed := true }
def FnExactSameStateUptoSaid : Prop := fnExactSameStateUptoRow.holds Tryz.pinned (OpenSpec.upto fnExactSameStateSpec)

/-- 'laws.FnExactDuesOf', WHERE WHAT IT READS IS OF BULK AT MOST 1048576: true; the input reads as it did. -/
def fnExactDuesOfUptoRow : OpenClaim := { program := "ytliopiphobopjaagreat", sum := "d7d1c65575abfd755ef1c5821644fa19467fd72218141894585c63449899e24f", func := "loop.example/g00454/laws.FnExactDuesOf", spec := "fnExactDuesOf", unfollowed := true, recurses := true, apart := false, narrowed := true }
def FnExactDuesOfUptoSaid : Prop := fnExactDuesOfUptoRow.holds Tryz.pinned (OpenSpec.upto fnExactDuesOfSpec)

/-- 'laws.FnExactCtlNew', WHERE WHAT IT READS IS OF BULK AT MOST 1048576: true; the input reads as it did. -/
def fnExactCtlNewUptoRow : OpenClaim := { program := "ytliopiphobopjaagreat", sum := "d7d1c65575abfd755ef1c5821644fa19467fd72218141894585c63449899e24f", func := "loop.example/g00454/laws.FnExactCtlNew", spec := "fnExactCtlNew", unfollowed := true, recurses := true, apart := false, narrowed := true }
def FnExactCtlNewUptoSaid : Prop := fnExactCtlNewUptoRow.holds Tryz.pinned (OpenSpec.upto fnExactCtlNewSpec)

/-- 'laws.FnExactWorldNew', WHERE WHAT IT READS IS OF BULK AT MOST 1048576: true; the input reads as it did. -/
def fnExactWorldNewUptoRow : OpenClaim := { program := "ytliopiphobopjaagreat", sum := "d7d1c65575abfd755ef1c5821644fa19467fd72218141894585c63449899e24f", func := "loop.example/g00454/laws.FnExactWorldNew", spec := "fnExactWorldNew", unfollowed := true, recurses := true, apart := false, narrowed := true }
def FnExactWorldNewUptoSaid : Prop := fnExactWorldNewUptoRow.holds Tryz.pinned (OpenSpec.upto fnExactWorldNewSpec)

/-- 'laws.FnExactLater', WHERE WHAT IT READS IS OF BULK AT MOST 1048576: true; the input reads as it did. -/
def fnExactLaterUptoRow : OpenClaim := { program := "ytliopiphobopjaagreat", sum := "d7d1c65575abfd755ef1c5821644fa19467fd72218141894585c63449899e24f", func := "loop.example/g00454/laws.FnExactLater", spec := "fnExactLater", unfollowed := true, recurses := true, apart := false, narrowed := true }
def FnExactLaterUptoSaid : Prop := fnExactLaterUptoRow.holds Tryz.pinned (OpenSpec.upto fnExactLaterSpec)

/-- 'laws.FnExactReport', WHERE WHAT IT READS IS OF BULK AT MOST 1048576: true; the input reads as it did. -/
def fnExactReportUptoRow : OpenClaim := { program := "ytliopiphobopjaagreat", sum := "d7d1c65575abfd755ef1c5821644fa19467fd72218141894585c63449899e24f", func := "loop.example/g00454/laws.FnExactReport", spec := "fnExactReport", unfollowed := true, recurses := true, apart := false, narrowed := true }
def FnExactReportUptoSaid : Prop := fnExactReportUptoRow.holds Tryz.pinned (OpenSpec.upto fnExactReportSpec)

/-- 'laws.FnExactStart', WHERE WHAT IT READS IS OF BULK AT MOST 1048576: true; the input reads as it did. -/
def fnExactStartUptoRow : OpenClaim := { program := "ytliopiphobopjaagreat", sum := "d7d1c65575abfd755ef1c5821644fa19467fd72218141894585c63449899e24f", func := "loop.example/g00454/laws.FnExactStart", spec := "fnExactStart", unfollowed := true, recurses := true, apart := false, narrowed := true }
def FnExactStartUptoSaid : Prop := fnExactStartUptoRow.holds Tryz.pinned (OpenSpec.upto fnExactStartSpec)

/-- 'laws.FnExactResize', WHERE WHAT IT READS IS OF BULK AT MOST 1048576: true; the input reads as it did. -/
def fnExactResizeUptoRow : OpenClaim := { program := "ytliopiphobopjaagreat", sum := "d7d1c65575abfd755ef1c5821644fa19467fd72218141894585c63449899e24f", func := "loop.example/g00454/laws.FnExactResize", spec := "fnExactResize", unfollowed := true, recurses := true, apart := false, narrowed := true }
def FnExactResizeUptoSaid : Prop := fnExactResizeUptoRow.holds Tryz.pinned (OpenSpec.upto fnExactResizeSpec)

/-- 'laws.FnExactResume', WHERE WHAT IT READS IS OF BULK AT MOST 1048576: true; the input reads as it did. -/
def fnExactResumeUptoRow : OpenClaim := { program := "ytliopiphobopjaagreat", sum := "d7d1c65575abfd755ef1c5821644fa19467fd72218141894585c63449899e24f", func := "loop.example/g00454/laws.FnExactResume", spec := "fnExactResume", unfollowed := true, recurses := true, apart := false, narrowed := true }
def FnExactResumeUptoSaid : Prop := fnExactResumeUptoRow.holds Tryz.pinned (OpenSpec.upto fnExactResumeSpec)

/-- 'laws.FnExactSubmit', WHERE WHAT IT READS IS OF BULK AT MOST 1048576: true; the input reads as it did. -/
def fnExactSubmitUptoRow : OpenClaim := { program := "ytliopiphobopjaagreat", sum := "d7d1c65575abfd755ef1c5821644fa19467fd72218141894585c63449899e24f", func := "loop.example/g00454/laws.FnExactSubmit", spec := "fnExactSubmit", unfollowed := true, recurses := true, apart := false, narrowed := true }
def FnExactSubmitUptoSaid : Prop := fnExactSubmitUptoRow.holds Tryz.pinned (OpenSpec.upto fnExactSubmitSpec)

/-- 'laws.FnExactFail', WHERE WHAT IT READS IS OF BULK AT MOST 1048576: true; the input reads as it did. -/
def fnExactFailUptoRow : OpenClaim := { program := "ytliopiphobopjaagreat", sum := "d7d1c65575abfd755ef1c5821644fa19467fd72218141894585c63449899e24f", func := "loop.example/g00454/laws.FnExactFail", spec := "fnExactFail", unfollowed := true, recurses := true, apart := false, narrowed := true }
def FnExactFailUptoSaid : Prop := fnExactFailUptoRow.holds Tryz.pinned (OpenSpec.upto fnExactFailSpec)

/-- 'laws.FnExactFinish', WHERE WHAT IT READS IS OF BULK AT MOST 1048576: true; the input reads as it did. -/
def fnExactFinishUptoRow : OpenClaim := { program := "ytliopiphobopjaagreat", sum := "d7d1c65575abfd755ef1c5821644fa19467fd72218141894585c63449899e24f", func := "loop.example/g00454/laws.FnExactFinish", spec := "fnExactFinish", unfollowed := true, recurses := true, apart := false, narrowed := true }
def FnExactFinishUptoSaid : Prop := fnExactFinishUptoRow.holds Tryz.pinned (OpenSpec.upto fnExactFinishSpec)

/-- 'laws.FnExactUntil', WHERE WHAT IT READS IS OF BULK AT MOST 1048576: true; the input reads as it did. -/
def fnExactUntilUptoRow : OpenClaim := { program := "ytliopiphobopjaagreat", sum := "d7d1c65575abfd755ef1c5821644fa19467fd72218141894585c63449899e24f", func := "loop.example/g00454/laws.FnExactUntil", spec := "fnExactUntil", unfollowed := true, recurses := true, apart := false, narrowed := true }
def FnExactUntilUptoSaid : Prop := fnExactUntilUptoRow.holds Tryz.pinned (OpenSpec.upto fnExactUntilSpec)

/-- 'laws.FnExactApply', WHERE WHAT IT READS IS OF BULK AT MOST 1048576: true; the input reads as it did. -/
def fnExactApplyUptoRow : OpenClaim := { program := "ytliopiphobopjaagreat", sum := "d7d1c65575abfd755ef1c5821644fa19467fd72218141894585c63449899e24f", func := "loop.example/g00454/laws.FnExactApply", spec := "fnExactApply", unfollowed := true, recurses := true, apart := false, narrowed := true }
def FnExactApplyUptoSaid : Prop := fnExactApplyUptoRow.holds Tryz.pinned (OpenSpec.upto fnExactApplySpec)

end Rows
end Go.Proofs.YtliopiphobopjaaGreat
