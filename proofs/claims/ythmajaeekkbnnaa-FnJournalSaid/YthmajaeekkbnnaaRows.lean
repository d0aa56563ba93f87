/-
  No cell of these rows narrows 'for every input' (looked for: loops, veiled, ifaces, maps, wideKeys, modest, calm, conditions, laid).
  DERIVED. THE GIVEN ROWS OF THIS SEAT. 22 by the template 'for every input the law returns true; each argument reads behind the call as it read before'; 0 by the template 'total and deterministic' (their statements: YthmajaeekkbnnaaTotals.lean).
  GIVEN WITH THE SEED: the statements are not yours to turn. If you find one false, say at which input.
  Laid BY PROGRAM, IN A SANDBOX (cutbox-rows.mjs): the forced cells as the released guide's own fill.sh prints them over the translation 15c554b6b59b6b73… (all of the seat's roots in one cut). By AI agents, Wed Nov 11 2026. No macro, syntax, notation, axiom, sorry.
-/
import Derived.Test.YthmajaeekkbnnaaChecked
import GoSem.Claim
import GoSem.ClaimJoined
import GoSem.ClaimMapViews
import Derived.JoinedTies
import Derived.KernelRfl
namespace Go.Proofs.Ythmajaeekkbnnaa
/- THE CELL 'sum', in the pinned program and in every row, IS THE sha256 OF THE DUMP (.gsa) THAT YthmajaeekkbnnaaProg.lean LOADS. Nothing in Lean hashes anything: it is a label: what it is worth is what the hold of that sum in a sandbox is worth. -/
noncomputable def Try.pinned : Pinned := { name := "ythmajaeekkbnnaa", sum := "15c554b6b59b6b7337d0e04bf0f3c7306755e78be7df5616fb48bc53feac4de7", checked := Try.checked }
namespace Rows
def none {H : Type} : Left H := { results := [], args := [] }

/-- 'laws.FnExactDueFirst': WHATEVER THE INPUT: true; the input reads as it did. -/
def fnExactDueFirstSpec : ChangeSpec := { name := "fnExactDueFirst", fn := fun _ => fun
  | [d1, d2] => { results := [.lit (.bool true)], args := [d1, d2] }
  | _ => none }
def fnExactDueFirstRow : OpenClaim := { program := "ythmajaeekkbnnaa", sum := "15c554b6b59b6b7337d0e04bf0f3c7306755e78be7df5616fb48bc53feac4de7", func := "loop.example/g00454/laws.FnExactDueFirst", spec := "fnExactDueFirst", apart := false }
def FnExactDueFirstSaid : Prop := fnExactDueFirstRow.holds Try.pinned (OpenSpec.ofChange fnExactDueFirstSpec)

/-- ITS FALSE NEIGHBOUR: 'it returns false'. Refute it at one input. -/
def fnExactDueFirstWrong : ChangeSpec := { name := "fnExactDueFirst", fn := fun _ => fun
  | [d1, d2] => { results := [.lit (.bool false)], args := [d1, d2] }
  | _ => none }
def FnExactDueFirstWrongFalsely : Prop := fnExactDueFirstRow.holds Try.pinned (OpenSpec.ofChange fnExactDueFirstWrong)

/-- 'laws.FnExactRecordOk': WHATEVER THE INPUT: true; the input reads as it did. -/
def fnExactRecordOkSpec : ChangeSpec := { name := "fnExactRecordOk", fn := fun _ => fun
  | [d] => { results := [.lit (.bool true)], args := [d] }
  | _ => none }
def fnExactRecordOkRow : OpenClaim := { program := "ythmajaeekkbnnaa", sum := "15c554b6b59b6b7337d0e04bf0f3c7306755e78be7df5616fb48bc53feac4de7", func := "loop.example/g00454/laws.FnExactRecordOk", spec := "fnExactRecordOk", apart := false }
def FnExactRecordOkSaid : Prop := fnExactRecordOkRow.holds Try.pinned (OpenSpec.ofChange fnExactRecordOkSpec)

/-- ITS FALSE NEIGHBOUR: 'it returns false'. Refute it at one input. -/
def fnExactRecordOkWrong : ChangeSpec := { name := "fnExactRecordOk", fn := fun _ => fun
  | [d] => { results := [.lit (.bool false)], args := [d] }
  | _ => none }
def FnExactRecordOkWrongFalsely : Prop := fnExactRecordOkRow.holds Try.pinned (OpenSpec.ofChange fnExactRecordOkWrong)

/-- 'laws.FnExactHeapOk': WHATEVER THE INPUT: true; the input reads as it did. -/
def fnExactHeapOkSpec : ChangeSpec := { name := "fnExactHeapOk", fn := fun _ => fun
  | [d] => { results := [.lit (.bool true)], args := [d] }
  | _ => none }
def fnExactHeapOkRow : OpenClaim := { program := "ythmajaeekkbnnaa", sum := "15c554b6b59b6b7337d0e04bf0f3c7306755e78be7df5616fb48bc53feac4de7", func := "loop.example/g00454/laws.FnExactHeapOk", spec := "fnExactHeapOk", apart := false }
def FnExactHeapOkSaid : Prop := fnExactHeapOkRow.holds Try.pinned (OpenSpec.ofChange fnExactHeapOkSpec)

/-- ITS FALSE NEIGHBOUR: 'it returns false'. Refute it at one input. -/
def fnExactHeapOkWrong : ChangeSpec := { name := "fnExactHeapOk", fn := fun _ => fun
  | [d] => { results := [.lit (.bool false)], args := [d] }
  | _ => none }
def FnExactHeapOkWrongFalsely : Prop := fnExactHeapOkRow.holds Try.pinned (OpenSpec.ofChange fnExactHeapOkWrong)

/-- 'laws.FnExactCmdOk': WHATEVER THE INPUT: true; the input reads as it did. -/
def fnExactCmdOkSpec : ChangeSpec := { name := "fnExactCmdOk", fn := fun _ => fun
  | [d] => { results := [.lit (.bool true)], args := [d] }
  | _ => none }
def fnExactCmdOkRow : OpenClaim := { program := "ythmajaeekkbnnaa", sum := "15c554b6b59b6b7337d0e04bf0f3c7306755e78be7df5616fb48bc53feac4de7", func := "loop.example/g00454/laws.FnExactCmdOk", spec := "fnExactCmdOk", apart := false }
def FnExactCmdOkSaid : Prop := fnExactCmdOkRow.holds Try.pinned (OpenSpec.ofChange fnExactCmdOkSpec)

/-- ITS FALSE NEIGHBOUR: 'it returns false'. Refute it at one input. -/
def fnExactCmdOkWrong : ChangeSpec := { name := "fnExactCmdOk", fn := fun _ => fun
  | [d] => { results := [.lit (.bool false)], args := [d] }
  | _ => none }
def FnExactCmdOkWrongFalsely : Prop := fnExactCmdOkRow.holds Try.pinned (OpenSpec.ofChange fnExactCmdOkWrong)

/-- 'laws.FnExactHeapPush': WHATEVER THE INPUT: true; the input reads as it did. -/
def fnExactHeapPushSpec : ChangeSpec := { name := "fnExactHeapPush", fn := fun _ => fun
  | [d1, d2] => { results := [.lit (.bool true)], args := [d1, d2] }
  | _ => none }
def fnExactHeapPushRow : OpenClaim := { program := "ythmajaeekkbnnaa", sum := "15c554b6b59b6b7337d0e04bf0f3c7306755e78be7df5616fb48bc53feac4de7", func := "loop.example/g00454/laws.FnExactHeapPush", spec := "fnExactHeapPush", apart := false }
def FnExactHeapPushSaid : Prop := fnExactHeapPushRow.holds Try.pinned (OpenSpec.ofChange fnExactHeapPushSpec)

/-- ITS FALSE NEIGHBOUR: 'it returns false'. Refute it at one input. -/
def fnExactHeapPushWrong : ChangeSpec := { name := "fnExactHeapPush", fn := fun _ => fun
  | [d1, d2] => { results := [.lit (.bool false)], args := [d1, d2] }
  | _ => none }
def FnExactHeapPushWrongFalsely : Prop := fnExactHeapPushRow.holds Try.pinned (OpenSpec.ofChange fnExactHeapPushWrong)

/-- 'laws.FnExactHeapOf': WHATEVER THE INPUT: true; the input reads as it did. -/
def fnExactHeapOfSpec : ChangeSpec := { name := "fnExactHeapOf", fn := fun _ => fun
  | [d] => { results := [.lit (.bool true)], args := [d] }
  | _ => none }
def fnExactHeapOfRow : OpenClaim := { program := "ythmajaeekkbnnaa", sum := "15c554b6b59b6b7337d0e04bf0f3c7306755e78be7df5616fb48bc53feac4de7", func := "loop.example/g00454/laws.FnExactHeapOf", spec := "fnExactHeapOf", apart := false }
def FnExactHeapOfSaid : Prop := fnExactHeapOfRow.holds Try.pinned (OpenSpec.ofChange fnExactHeapOfSpec)

/-- ITS FALSE NEIGHBOUR: 'it returns false'. Refute it at one input. -/
def fnExactHeapOfWrong : ChangeSpec := { name := "fnExactHeapOf", fn := fun _ => fun
  | [d] => { results := [.lit (.bool false)], args := [d] }
  | _ => none }
def FnExactHeapOfWrongFalsely : Prop := fnExactHeapOfRow.holds Try.pinned (OpenSpec.ofChange fnExactHeapOfWrong)

/-- 'laws.FnExactHeapPop': WHATEVER THE INPUT: true; the input reads as it did. -/
def fnExactHeapPopSpec : ChangeSpec := { name := "fnExactHeapPop", fn := fun _ => fun
  | [d] => { results := [.lit (.bool true)], args := [d] }
  | _ => none }
def fnExactHeapPopRow : OpenClaim := { program := "ythmajaeekkbnnaa", sum := "15c554b6b59b6b7337d0e04bf0f3c7306755e78be7df5616fb48bc53feac4de7", func := "loop.example/g00454/laws.FnExactHeapPop", spec := "fnExactHeapPop", apart := false }
def FnExactHeapPopSaid : Prop := fnExactHeapPopRow.holds Try.pinned (OpenSpec.ofChange fnExactHeapPopSpec)

/-- ITS FALSE NEIGHBOUR: 'it returns false'. Refute it at one input. -/
def fnExactHeapPopWrong : ChangeSpec := { name := "fnExactHeapPop", fn := fun _ => fun
  | [d] => { results := [.lit (.bool false)], args := [d] }
  | _ => none }
def FnExactHeapPopWrongFalsely : Prop := fnExactHeapPopRow.holds Try.pinned (OpenSpec.ofChange fnExactHeapPopWrong)

/-- 'laws.FnExactCmdText': WHATEVER THE INPUT: true; the input reads as it did. -/
def fnExactCmdTextSpec : ChangeSpec := { name := "fnExactCmdText", fn := fun _ => fun
  | [d] => { results := [.lit (.bool true)], args := [d] }
  | _ => none }
def fnExactCmdTextRow : OpenClaim := { program := "ythmajaeekkbnnaa", sum := "15c554b6b59b6b7337d0e04bf0f3c7306755e78be7df5616fb48bc53feac4de7", func := "loop.example/g00454/laws.FnExactCmdText", spec := "fnExactCmdText", recurses := true, apart := false }
def FnExactCmdTextSaid : Prop := fnExactCmdTextRow.holds Try.pinned (OpenSpec.ofChange fnExactCmdTextSpec)

/-- ITS FALSE NEIGHBOUR: 'it returns false'. Refute it at one input. -/
def fnExactCmdTextWrong : ChangeSpec := { name := "fnExactCmdText", fn := fun _ => fun
  | [d] => { results := [.lit (.bool false)], args := [d] }
  | _ => none }
def FnExactCmdTextWrongFalsely : Prop := fnExactCmdTextRow.holds Try.pinned (OpenSpec.ofChange fnExactCmdTextWrong)

/-- 'laws.FnExactReadRecords': WHATEVER THE INPUT: true; the input reads as it did. -/
def fnExactReadRecordsSpec : ChangeSpec := { name := "fnExactReadRecords", fn := fun _ => fun
  | [d] => { results := [.lit (.bool true)], args := [d] }
  | _ => none }
def fnExactReadRecordsRow : OpenClaim := { program := "ythmajaeekkbnnaa", sum := "15c554b6b59b6b7337d0e04bf0f3c7306755e78be7df5616fb48bc53feac4de7", func := "loop.example/g00454/laws.FnExactReadRecords", spec := "fnExactReadRecords", recurses := true, apart := false }
def FnExactReadRecordsSaid : Prop := fnExactReadRecordsRow.holds Try.pinned (OpenSpec.ofChange fnExactReadRecordsSpec)

/-- ITS FALSE NEIGHBOUR: 'it returns false'. Refute it at one input. -/
def fnExactReadRecordsWrong : ChangeSpec := { name := "fnExactReadRecords", fn := fun _ => fun
  | [d] => { results := [.lit (.bool false)], args := [d] }
  | _ => none }
def FnExactReadRecordsWrongFalsely : Prop := fnExactReadRecordsRow.holds Try.pinned (OpenSpec.ofChange fnExactReadRecordsWrong)

/-- 'laws.FnExactJournalOk': WHATEVER THE INPUT: true; the input reads as it did. -/
def fnExactJournalOkSpec : ChangeSpec := { name := "fnExactJournalOk", fn := fun _ => fun
  | [d] => { results := [.lit (.bool true)], args := [d] }
  | _ => none }
def fnExactJournalOkRow : OpenClaim := { program := "ythmajaeekkbnnaa", sum := "15c554b6b59b6b7337d0e04bf0f3c7306755e78be7df5616fb48bc53feac4de7", func := "loop.example/g00454/laws.FnExactJournalOk", spec := "fnExactJournalOk", recurses := true, apart := false }
def FnExactJournalOkSaid : Prop := fnExactJournalOkRow.holds Try.pinned (OpenSpec.ofChange fnExactJournalOkSpec)

/-- ITS FALSE NEIGHBOUR: 'it returns false'. Refute it at one input. -/
def fnExactJournalOkWrong : ChangeSpec := { name := "fnExactJournalOk", fn := fun _ => fun
  | [d] => { results := [.lit (.bool false)], args := [d] }
  | _ => none }
def FnExactJournalOkWrongFalsely : Prop := fnExactJournalOkRow.holds Try.pinned (OpenSpec.ofChange fnExactJournalOkWrong)

/-- 'laws.FnExactHeapAll': WHATEVER THE INPUT: true; the input reads as it did. -/
def fnExactHeapAllSpec : ChangeSpec := { name := "fnExactHeapAll", fn := fun _ => fun
  | [d] => { results := [.lit (.bool true)], args := [d] }
  | _ => none }
def fnExactHeapAllRow : OpenClaim := { program := "ythmajaeekkbnnaa", sum := "15c554b6b59b6b7337d0e04bf0f3c7306755e78be7df5616fb48bc53feac4de7", func := "loop.example/g00454/laws.FnExactHeapAll", spec := "fnExactHeapAll", apart := false }
def FnExactHeapAllSaid : Prop := fnExactHeapAllRow.holds Try.pinned (OpenSpec.ofChange fnExactHeapAllSpec)

/-- ITS FALSE NEIGHBOUR: 'it returns false'. Refute it at one input. -/
def fnExactHeapAllWrong : ChangeSpec := { name := "fnExactHeapAll", fn := fun _ => fun
  | [d] => { results := [.lit (.bool false)], args := [d] }
  | _ => none }
def FnExactHeapAllWrongFalsely : Prop := fnExactHeapAllRow.holds Try.pinned (OpenSpec.ofChange fnExactHeapAllWrong)

/-- 'laws.FnExactJournalOpen': WHATEVER THE INPUT: true; the input reads as it did. -/
def fnExactJournalOpenSpec : ChangeSpec := { name := "fnExactJournalOpen", fn := fun _ => fun
  | [d] => { results := [.lit (.bool true)], args := [d] }
  | _ => none }
def fnExactJournalOpenRow : OpenClaim := { program := "ythmajaeekkbnnaa", sum := "15c554b6b59b6b7337d0e04bf0f3c7306755e78be7df5616fb48bc53feac4de7", func := "loop.example/g00454/laws.FnExactJournalOpen", spec := "fnExactJournalOpen", recurses := true, apart := false }
def FnExactJournalOpenSaid : Prop := fnExactJournalOpenRow.holds Try.pinned (OpenSpec.ofChange fnExactJournalOpenSpec)

/-- ITS FALSE NEIGHBOUR: 'it returns false'. Refute it at one input. -/
def fnExactJournalOpenWrong : ChangeSpec := { name := "fnExactJournalOpen", fn := fun _ => fun
  | [d] => { results := [.lit (.bool false)], args := [d] }
  | _ => none }
def FnExactJournalOpenWrongFalsely : Prop := fnExactJournalOpenRow.holds Try.pinned (OpenSpec.ofChange fnExactJournalOpenWrong)

/-- 'laws.FnHeap': WHATEVER THE INPUT: true; the input reads as it did. -/
def fnHeapSpec : ChangeSpec := { name := "fnHeap", fn := fun _ => fun
  | [d] => { results := [.lit (.bool true)], args := [d] }
  | _ => none }
def fnHeapRow : OpenClaim := { program := "ythmajaeekkbnnaa", sum := "15c554b6b59b6b7337d0e04bf0f3c7306755e78be7df5616fb48bc53feac4de7", func := "loop.example/g00454/laws.FnHeap", spec := "fnHeap", apart := false }
def FnHeapSaid : Prop := fnHeapRow.holds Try.pinned (OpenSpec.ofChange fnHeapSpec)

/-- ITS FALSE NEIGHBOUR: 'it returns false'. Refute it at one input. -/
def fnHeapWrong : ChangeSpec := { name := "fnHeap", fn := fun _ => fun
  | [d] => { results := [.lit (.bool false)], args := [d] }
  | _ => none }
def FnHeapWrongFalsely : Prop := fnHeapRow.holds Try.pinned (OpenSpec.ofChange fnHeapWrong)

/-- 'laws.FnExactJournalCrash': WHATEVER THE INPUT: true; the input reads as it did. -/
def fnExactJournalCrashSpec : ChangeSpec := { name := "fnExactJournalCrash", fn := fun _ => fun
  | [d1, d2] => { results := [.lit (.bool true)], args := [d1, d2] }
  | _ => none }
def fnExactJournalCrashRow : OpenClaim := { program := "ythmajaeekkbnnaa", sum := "15c554b6b59b6b7337d0e04bf0f3c7306755e78be7df5616fb48bc53feac4de7", func := "loop.example/g00454/laws.FnExactJournalCrash", spec := "fnExactJournalCrash", recurses := true, apart := false }
def FnExactJournalCrashSaid : Prop := fnExactJournalCrashRow.holds Try.pinned (OpenSpec.ofChange fnExactJournalCrashSpec)

/-- ITS FALSE NEIGHBOUR: 'it returns false'. Refute it at one input. -/
def fnExactJournalCrashWrong : ChangeSpec := { name := "fnExactJournalCrash", fn := fun _ => fun
  | [d1, d2] => { results := [.lit (.bool false)], args := [d1, d2] }
  | _ => none }
def FnExactJournalCrashWrongFalsely : Prop := fnExactJournalCrashRow.holds Try.pinned (OpenSpec.ofChange fnExactJournalCrashWrong)

/-- 'laws.FnExactJournalSync': WHATEVER THE INPUT: true; the input reads as it did. -/
def fnExactJournalSyncSpec : ChangeSpec := { name := "fnExactJournalSync", fn := fun _ => fun
  | [d] => { results := [.lit (.bool true)], args := [d] }
  | _ => none }
def fnExactJournalSyncRow : OpenClaim := { program := "ythmajaeekkbnnaa", sum := "15c554b6b59b6b7337d0e04bf0f3c7306755e78be7df5616fb48bc53feac4de7", func := "loop.example/g00454/laws.FnExactJournalSync", spec := "fnExactJournalSync", recurses := true, apart := false }
def FnExactJournalSyncSaid : Prop := fnExactJournalSyncRow.holds Try.pinned (OpenSpec.ofChange fnExactJournalSyncSpec)

/-- ITS FALSE NEIGHBOUR: 'it returns false'. Refute it at one input. -/
def fnExactJournalSyncWrong : ChangeSpec := { name := "fnExactJournalSync", fn := fun _ => fun
  | [d] => { results := [.lit (.bool false)], args := [d] }
  | _ => none }
def FnExactJournalSyncWrongFalsely : Prop := fnExactJournalSyncRow.holds Try.pinned (OpenSpec.ofChange fnExactJournalSyncWrong)

/-- 'laws.FnExactStepText': WHATEVER THE INPUT: true; the input reads as it did. -/
def fnExactStepTextSpec : ChangeSpec := { name := "fnExactStepText", fn := fun _ => fun
  | [d] => { results := [.lit (.bool true)], args := [d] }
  | _ => none }
def fnExactStepTextRow : OpenClaim := { program := "ythmajaeekkbnnaa", sum := "15c554b6b59b6b7337d0e04bf0f3c7306755e78be7df5616fb48bc53feac4de7", func := "loop.example/g00454/laws.FnExactStepText", spec := "fnExactStepText", recurses := true, apart := false }
def FnExactStepTextSaid : Prop := fnExactStepTextRow.holds Try.pinned (OpenSpec.ofChange fnExactStepTextSpec)

/-- ITS FALSE NEIGHBOUR: 'it returns false'. Refute it at one input. -/
def fnExactStepTextWrong : ChangeSpec := { name := "fnExactStepText", fn := fun _ => fun
  | [d] => { results := [.lit (.bool false)], args := [d] }
  | _ => none }
def FnExactStepTextWrongFalsely : Prop := fnExactStepTextRow.holds Try.pinned (OpenSpec.ofChange fnExactStepTextWrong)

/-- 'laws.FnExactJournalAdd': WHATEVER THE INPUT: true; the input reads as it did. -/
def fnExactJournalAddSpec : ChangeSpec := { name := "fnExactJournalAdd", fn := fun _ => fun
  | [d1, d2] => { results := [.lit (.bool true)], args := [d1, d2] }
  | _ => none }
def fnExactJournalAddRow : OpenClaim := { program := "ythmajaeekkbnnaa", sum := "15c554b6b59b6b7337d0e04bf0f3c7306755e78be7df5616fb48bc53feac4de7", func := "loop.example/g00454/laws.FnExactJournalAdd", spec := "fnExactJournalAdd", recurses := true, apart := false }
def FnExactJournalAddSaid : Prop := fnExactJournalAddRow.holds Try.pinned (OpenSpec.ofChange fnExactJournalAddSpec)

/-- ITS FALSE NEIGHBOUR: 'it returns false'. Refute it at one input. -/
def fnExactJournalAddWrong : ChangeSpec := { name := "fnExactJournalAdd", fn := fun _ => fun
  | [d1, d2] => { results := [.lit (.bool false)], args := [d1, d2] }
  | _ => none }
def FnExactJournalAddWrongFalsely : Prop := fnExactJournalAddRow.holds Try.pinned (OpenSpec.ofChange fnExactJournalAddWrong)

/-- 'laws.FnJournal': WHATEVER THE INPUT: true; the input reads as it did. -/
def fnJournalSpec : ChangeSpec := { name := "fnJournal", fn := fun _ => fun
  | [d] => { results := [.lit (.bool true)], args := [d] }
  | _ => none }
def fnJournalRow : OpenClaim := { program := "ythmajaeekkbnnaa", sum := "15c554b6b59b6b7337d0e04bf0f3c7306755e78be7df5616fb48bc53feac4de7", func := "loop.example/g00454/laws.FnJournal", spec := "fnJournal", recurses := true, apart := false }
def FnJournalSaid : Prop := fnJournalRow.holds Try.pinned (OpenSpec.ofChange fnJournalSpec)

/-- ITS FALSE NEIGHBOUR: 'it returns false'. Refute it at one input. -/
def fnJournalWrong : ChangeSpec := { name := "fnJournal", fn := fun _ => fun
  | [d] => { results := [.lit (.bool false)], args := [d] }
  | _ => none }
def FnJournalWrongFalsely : Prop := fnJournalRow.holds Try.pinned (OpenSpec.ofChange fnJournalWrong)

/-- 'laws.FnCmd': WHATEVER THE INPUT: true; the input reads as it did. -/
def fnCmdSpec : ChangeSpec := { name := "fnCmd", fn := fun _ => fun
  | [d] => { results := [.lit (.bool true)], args := [d] }
  | _ => none }
def fnCmdRow : OpenClaim := { program := "ythmajaeekkbnnaa", sum := "15c554b6b59b6b7337d0e04bf0f3c7306755e78be7df5616fb48bc53feac4de7", func := "loop.example/g00454/laws.FnCmd", spec := "fnCmd", apart := false }
def FnCmdSaid : Prop := fnCmdRow.holds Try.pinned (OpenSpec.ofChange fnCmdSpec)

/-- ITS FALSE NEIGHBOUR: 'it returns false'. Refute it at one input. -/
def fnCmdWrong : ChangeSpec := { name := "fnCmd", fn := fun _ => fun
  | [d] => { results := [.lit (.bool false)], args := [d] }
  | _ => none }
def FnCmdWrongFalsely : Prop := fnCmdRow.holds Try.pinned (OpenSpec.ofChange fnCmdWrong)

/-- 'laws.FnExactTextCmd': WHATEVER THE INPUT: true; the input reads as it did. -/
def fnExactTextCmdSpec : ChangeSpec := { name := "fnExactTextCmd", fn := fun _ => fun
  | [d] => { results := [.lit (.bool true)], args := [d] }
  | _ => none }
def fnExactTextCmdRow : OpenClaim := { program := "ythmajaeekkbnnaa", sum := "15c554b6b59b6b7337d0e04bf0f3c7306755e78be7df5616fb48bc53feac4de7", func := "loop.example/g00454/laws.FnExactTextCmd", spec := "fnExactTextCmd", recurses := true, apart := false }
def FnExactTextCmdSaid : Prop := fnExactTextCmdRow.holds Try.pinned (OpenSpec.ofChange fnExactTextCmdSpec)

/-- ITS FALSE NEIGHBOUR: 'it returns false'. Refute it at one input. -/
def fnExactTextCmdWrong : ChangeSpec := { name := "fnExactTextCmd", fn := fun _ => fun
  | [d] => { results := [.lit (.bool false)], args := [d] }
  | _ => none }
def FnExactTextCmdWrongFalsely : Prop := fnExactTextCmdRow.holds Try.pinned (OpenSpec.ofChange fnExactTextCmdWrong)

/-- 'laws.FnExactTextStep': WHATEVER THE INPUT: true; the input reads as it did. -/
def fnExactTextStepSpec : ChangeSpec := { name := "fnExactTextStep", fn := fun _ => fun
  | [d] => { results := [.lit (.bool true)], args := [d] }
  | _ => none }
def fnExactTextStepRow : OpenClaim := { program := "ythmajaeekkbnnaa", sum := "15c554b6b59b6b7337d0e04bf0f3c7306755e78be7df5616fb48bc53feac4de7", func := "loop.example/g00454/laws.FnExactTextStep", spec := "fnExactTextStep", recurses := true, apart := false }
def FnExactTextStepSaid : Prop := fnExactTextStepRow.holds Try.pinned (OpenSpec.ofChange fnExactTextStepSpec)

/-- ITS FALSE NEIGHBOUR: 'it returns false'. Refute it at one input. -/
def fnExactTextStepWrong : ChangeSpec := { name := "fnExactTextStep", fn := fun _ => fun
  | [d] => { results := [.lit (.bool false)], args := [d] }
  | _ => none }
def FnExactTextStepWrongFalsely : Prop := fnExactTextStepRow.holds Try.pinned (OpenSpec.ofChange fnExactTextStepWrong)

/-- 'laws.FnStep': WHATEVER THE INPUT: true; the input reads as it did. -/
def fnStepSpec : ChangeSpec := { name := "fnStep", fn := fun _ => fun
  | [d] => { results := [.lit (.bool true)], args := [d] }
  | _ => none }
def fnStepRow : OpenClaim := { program := "ythmajaeekkbnnaa", sum := "15c554b6b59b6b7337d0e04bf0f3c7306755e78be7df5616fb48bc53feac4de7", func := "loop.example/g00454/laws.FnStep", spec := "fnStep", recurses := true, apart := false }
def FnStepSaid : Prop := fnStepRow.holds Try.pinned (OpenSpec.ofChange fnStepSpec)

/-- ITS FALSE NEIGHBOUR: 'it returns false'. Refute it at one input. -/
def fnStepWrong : ChangeSpec := { name := "fnStep", fn := fun _ => fun
  | [d] => { results := [.lit (.bool false)], args := [d] }
  | _ => none }
def FnStepWrongFalsely : Prop := fnStepRow.holds Try.pinned (OpenSpec.ofChange fnStepWrong)

/- THE SECOND FORM. 'bulk': how many values and letters a reading holds, each counted each time it is reached (what is shared counts as often as it is met; a slice's spare places count too). A statement '..UptoSaid' is the law's where the arguments, and the package variables that the reading takes, are together of bulk at most 1048576: NARROWER than '..Said'. Prove '..Said' where nothing that the law and all that it calls make is longer than what came in: it says more and counts as full. Else prove '..UptoSaid'. A law counts once. -/
mutual
def uptoBulk {H : Type} : DataW H → Nat
  | .lit (.string bytes) => bytes.length + 1
  | .lit _ => 1
  | .nil => 1
  | .ptr d => uptoBulk d + 1
  | .slice elems spare => uptoBulkAll elems + uptoBulkAll spare + 1
  | .agg parts => uptoBulkAll parts + 1
  | .iface _ d => uptoBulk d + 1
  | .map entries => uptoBulkEntries entries + 1
  | .held _ => 1
def uptoBulkAll {H : Type} : List (DataW H) → Nat
  | [] => 0
  | d :: r => uptoBulk d + uptoBulkAll r
def uptoBulkEntries {H : Type} : List (Lit × DataW H) → Nat
  | [] => 0
  | x :: r => uptoBulkEntry x + uptoBulkEntries r
def uptoBulkEntry {H : Type} : Lit × DataW H → Nat
  | (.string bytes, d) => bytes.length + uptoBulk d + 1
  | (_, d) => uptoBulk d + 1
 end
def uptoSmall : (H : Type) → List (DataW H) → Bool := fun _ ds => decide (uptoBulkAll ds ≤ 1048576)
def OpenSpec.upto (s : _root_.Go.ChangeSpec) : _root_.Go.OpenSpec := { _root_.Go.OpenSpec.ofChange s with cond := some uptoSmall }

/-- 'laws.FnExactDueFirst', WHERE WHAT IT READS IS OF BULK AT MOST 1048576: true; the input reads as it did. -/
def fnExactDueFirstUptoRow : OpenClaim := { program := "ythmajaeekkbnnaa", sum := "15c554b6b59b6b7337d0e04bf0f3c7306755e78be7df5616fb48bc53feac4de7", func := "loop.example/g00454/laws.FnExactDueFirst", spec := "fnExactDueFirst", apart := false, narrowed := true }
def FnExactDueFirstUptoSaid : Prop := fnExactDueFirstUptoRow.holds Try.pinned (OpenSpec.upto fnExactDueFirstSpec)

/-- 'laws.FnExactRecordOk', WHERE WHAT IT READS IS OF BULK AT MOST 1048576: true; the input reads as it did. -/
def fnExactRecordOkUptoRow : OpenClaim := { program := "ythmajaeekkbnnaa", sum := "15c554b6b59b6b7337d0e04bf0f3c7306755e78be7df5616fb48bc53feac4de7", func := "loop.example/g00454/laws.FnExactRecordOk", spec := "fnExactRecordOk", apart := false, narrowed := true }
def FnExactRecordOkUptoSaid : Prop := fnExactRecordOkUptoRow.holds Try.pinned (OpenSpec.upto fnExactRecordOkSpec)

/-- 'laws.FnExactHeapOk', WHERE WHAT IT READS IS OF BULK AT MOST 1048576: true; the input reads as it did. -/
def fnExactHeapOkUptoRow : OpenClaim := { program := "ythmajaeekkbnnaa", sum := "15c554b6b59b6b7337d0e04bf0f3c7306755e78be7df5616fb48bc53feac4de7", func := "loop.example/g00454/laws.FnExactHeapOk", spec := "fnExactHeapOk", apart := false, narrowed := true }
def FnExactHeapOkUptoSaid : Prop := fnExactHeapOkUptoRow.holds Try.pinned (OpenSpec.upto fnExactHeapOkSpec)

/-- 'laws.FnExactCmdOk', WHERE WHAT IT READS IS OF BULK AT MOST 1048576: true; the input reads as it did. -/
def fnExactCmdOkUptoRow : OpenClaim := { program := "ythmajaeekkbnnaa", sum := "15c554b6b59b6b7337d0e04bf0f3c7306755e78be7df5616fb48bc53feac4de7", func := "loop.example/g00454/laws.FnExactCmdOk", spec := "fnExactCmdOk", apart := false, narrowed := true }
def FnExactCmdOkUptoSaid : Prop := fnExactCmdOkUptoRow.holds Try.pinned (OpenSpec.upto fnExactCmdOkSpec)

/-- 'laws.FnExactHeapPush', WHERE WHAT IT READS IS OF BULK AT MOST 1048576: true; the input reads as it did. -/
def fnExactHeapPushUptoRow : OpenClaim := { program := "ythmajaeekkbnnaa", sum := "15c554b6b59b6b7337d0e04bf0f3c7306755e78be7df5616fb48bc53feac4de7", func := "loop.example/g00454/laws.FnExactHeapPush", spec := "fnExactHeapPush", apart := false, narrowed := true }
def FnExactHeapPushUptoSaid : Prop := fnExactHeapPushUptoRow.holds Try.pinned (OpenSpec.upto fnExactHeapPushSpec)

/-- 'laws.FnExactHeapOf', WHERE WHAT IT READS IS OF BULK AT MOST 1048576: true; the input reads as it did. -/
def fnExactHeapOfUptoRow : OpenClaim := { program := "ythmajaeekkbnnaa", sum := "15c554b6b59b6b7337d0e04bf0f3c7306755e78be7df5616fb48bc53feac4de7", func := "loop.example/g00454/laws.FnExactHeapOf", spec := "fnExactHeapOf", apart := false, narrowed := true }
def FnExactHeapOfUptoSaid : Prop := fnExactHeapOfUptoRow.holds Try.pinned (OpenSpec.upto fnExactHeapOfSpec)

/-- 'laws.FnExactHeapPop', WHERE WHAT IT READS IS OF BULK AT MOST 1048576: true; the input reads as it did. -/
def fnExactHeapPopUptoRow : OpenClaim := { program := "ythmajaeekkbnnaa", sum := "15c554b6b59b6b7337d0e04bf0f3c7306755e78be7df5616fb48bc53feac4de7", func := "loop.example/g00454/laws.FnExactHeapPop", spec := "fnExactHeapPop", apart := false, narrowed := true }
def FnExactHeapPopUptoSaid : Prop := fnExactHeapPopUptoRow.holds Try.pinned (OpenSpec.upto fnExactHeapPopSpec)

/-- 'laws.FnExactCmdText', WHERE WHAT IT READS IS OF BULK AT MOST 1048576: true; the input reads as it did. -/
def fnExactCmdTextUptoRow : OpenClaim := { program := "ythmajaeekkbnnaa", sum := "15c554b6b59b6b7337d0e04bf0f3c7306755e78be7df5616fb48bc53feac4de7", func := "loop.example/g00454/laws.FnExactCmdText", spec := "fnExactCmdText", recurses := true, apart := false, narrowed := true }
def FnExactCmdTextUptoSaid : Prop := fnExactCmdTextUptoRow.holds Try.pinned (OpenSpec.upto fnExactCmdTextSpec)

/-- 'laws.FnExactReadRecords', WHERE WHAT IT READS IS OF BULK AT MOST 1048576: true; the input reads as it did. -/
def fnExactReadRecordsUptoRow : OpenClaim := { program := "ythmajaeekkbnnaa", sum := "15c554b6b59b6b7337d0e04bf0f3c7306755e78be7df5616fb48bc53feac4de7", func := "loop.example/g00454/laws.FnExactReadRecords", spec := "fnExactReadRecords", recurses := true, apart := false, narrowed := true }
def FnExactReadRecordsUptoSaid : Prop := fnExactReadRecordsUptoRow.holds Try.pinned (OpenSpec.upto fnExactReadRecordsSpec)

/-- 'laws.FnExactJournalOk', WHERE WHAT IT READS IS OF BULK AT MOST 1048576: true; the input reads as it did. -/
def fnExactJournalOkUptoRow : OpenClaim := { program := "ythmajaeekkbnnaa", sum := "15c554b6b59b6b7337d0e04bf0f3c7306755e78be7df5616fb48bc53feac4de7", func := "loop.example/g00454/laws.FnExactJournalOk", spec := "fnExactJournalOk", recurses := true, apart := false, narrowed := true }
def FnExactJournalOkUptoSaid : Prop := fnExactJournalOkUptoRow.holds Try.pinned (OpenSpec.upto fnExactJournalOkSpec)

/-- 'laws.FnExactHeapAll', WHERE WHAT IT READS IS OF BULK AT MOST 1048576: true; the input reads as it did. -/
def fnExactHeapAllUptoRow : OpenClaim := { program := "ythmajaeekkbnnaa", sum := "15c554b6b59b6b7337d0e04bf0f3c7306755e78be7df5616fb48bc53feac4de7", func := "loop.example/g00454/laws.FnExactHeapAll", spec := "fnExactHeapAll", apart := false, narrowed := true }
def FnExactHeapAllUptoSaid : Prop := fnExactHeapAllUptoRow.holds Try.pinned (OpenSpec.upto fnExactHeapAllSpec)

/-- 'laws.FnExactJournalOpen', WHERE WHAT IT READS IS OF BULK AT MOST 1048576: true; the input reads as it did. -/
def fnExactJournalOpenUptoRow : OpenClaim := { program := "ythmajaeekkbnnaa", sum := "15c554b6b59b6b7337d0e04bf0f3c7306755e78be7df5616fb48bc53feac4de7", func := "loop.example/g00454/laws.FnExactJournalOpen", spec := "fnExactJournalOpen", recurses := true, apart := false, narrowed := true }
def FnExactJournalOpenUptoSaid : Prop := fnExactJournalOpenUptoRow.holds Try.pinned (OpenSpec.upto fnExactJournalOpenSpec)

/-- 'laws.FnHeap', WHERE WHAT IT READS IS OF BULK AT MOST 1048576: true; the input reads as it did. -/
def fnHeapUptoRow : OpenClaim := { program := "ythmajaeekkbnnaa", sum := "15c554b6b59b6b7337d0e04bf0f3c7306755e78be7df5616fb48bc53feac4de7", func := "loop.example/g00454/laws.FnHeap", spec := "fnHeap", apart := false, narrowed := true }
def FnHeapUptoSaid : Prop := fnHeapUptoRow.holds Try.pinned (OpenSpec.upto fnHeapSpec)

/-- 'laws.FnExactJournalCrash', WHERE WHAT IT READS IS OF BULK AT MOST 1048576: true; the input reads as it did. -/
def fnExactJournalCrashUptoRow : OpenClaim := { program := "ythmajaeekkbnnaa", sum := "15c554b6b59b6b7337d0e04bf0f3c7306755e78be7df5616fb48bc53feac4de7", func := "loop.example/g00454/laws.FnExactJournalCrash", spec := "fnExactJournalCrash", recurses := true, apart := false, narrowed := true }
def FnExactJournalCrashUptoSaid : Prop := fnExactJournalCrashUptoRow.holds Try.pinned (OpenSpec.upto fnExactJournalCrashSpec)

/-- 'laws.FnExactJournalSync', WHERE WHAT IT READS IS OF BULK AT MOST 1048576: true; the input reads as it did. -/
def fnExactJournalSyncUptoRow : OpenClaim := { program := "ythmajaeekkbnnaa", sum := "15c554b6b59b6b7337d0e04bf0f3c7306755e78be7df5616fb48bc53feac4de7", func := "loop.example/g00454/laws.FnExactJournalSync", spec := "fnExactJournalSync", recurses := true, apart := false, narrowed := true }
def FnExactJournalSyncUptoSaid : Prop := fnExactJournalSyncUptoRow.holds Try.pinned (OpenSpec.upto fnExactJournalSyncSpec)

/-- 'laws.FnExactStepText', WHERE WHAT IT READS IS OF BULK AT MOST 1048576: true; the input reads as it did. -/
def fnExactStepTextUptoRow : OpenClaim := { program := "ythmajaeekkbnnaa", sum := "15c554b6b59b6b7337d0e04bf0f3c7306755e78be7df5616fb48bc53feac4de7", func := "loop.example/g00454/laws.FnExactStepText", spec := "fnExactStepText", recurses := true, apart := false, narrowed := true }
def FnExactStepTextUptoSaid : Prop := fnExactStepTextUptoRow.holds Try.pinned (OpenSpec.upto fnExactStepTextSpec)

/-- 'laws.FnExactJournalAdd', WHERE WHAT IT READS IS OF BULK AT MOST 1048576: true; the input reads as it did. -/
def fnExactJournalAddUptoRow : OpenClaim := { program := "ythmajaeekkbnnaa", sum := "15c554b6b59b6b7337d0e04bf0f3c7306755e78be7df5616fb48bc53feac4de7", func := "loop.example/g00454/laws.FnExactJournalAdd", spec := "fnExactJournalAdd", recurses := true, apart := false, narrowed := true }
def FnExactJournalAddUptoSaid : Prop := fnExactJournalAddUptoRow.holds Try.pinned (OpenSpec.upto fnExactJournalAddSpec)

/-- 'laws.FnJournal', WHERE WHAT IT READS IS OF BULK AT MOST 1048576: true; the input reads as it did. -/
def fnJournalUptoRow : OpenClaim := { program := "ythmajaeekkbnnaa", sum := "15c554b6b59b6b7337d0e04bf0f3c7306755e78be7df5616fb48bc53feac4de7", func := "loop.example/g00454/laws.FnJournal", spec := "fnJournal", recurses := true, apart := false, narrowed := true }
def FnJournalUptoSaid : Prop := fnJournalUptoRow.holds Try.pinned (OpenSpec.upto fnJournalSpec)

/-- 'laws.FnCmd', WHERE WHAT IT READS IS OF BULK AT MOST 1048576: true; the input reads as it did. -/
def fnCmdUptoRow : OpenClaim := { program := "ythmajaeekkbnnaa", sum := "15c554b6b59b6b7337d0e04bf0f3c7306755e78be7df5616fb48bc53feac4de7", func := "loop.example/g00454/laws.FnCmd", spec := "fnCmd", apart := false, narrowed := true }
def FnCmdUptoSaid : Prop := fnCmdUptoRow.holds Try.pinned (OpenSpec.upto fnCmdSpec)

/-- 'laws.FnExactTextCmd', WHERE WHAT IT READS IS OF BULK AT MOST 1048576: true; the input reads as it did. -/
def fnExactTextCmdUptoRow : OpenClaim := { program := "ythmajaeekkbnnaa", sum := "15c554b6b59b6b7337d0e04bf0f3c7306755e78be7df5616fb48bc53feac4de7", func := "loop.example/g00454/laws.FnExactTextCmd", spec := "fnExactTextCmd", recurses := true, apart := false, narrowed := true }
def FnExactTextCmdUptoSaid : Prop := fnExactTextCmdUptoRow.holds Try.pinned (OpenSpec.upto fnExactTextCmdSpec)

/-- 'laws.FnExactTextStep', WHERE WHAT IT READS IS OF BULK AT MOST 1048576: true; the input reads as it did. -/
def fnExactTextStepUptoRow : OpenClaim := { program := "ythmajaeekkbnnaa", sum := "15c554b6b59b6b7337d0e04bf0f3c7306755e78be7df5616fb48bc53feac4de7", func := "loop.example/g00454/laws.FnExactTextStep", spec := "fnExactTextStep", recurses := true, apart := false, narrowed := true }
def FnExactTextStepUptoSaid : Prop := fnExactTextStepUptoRow.holds Try.pinned (OpenSpec.upto fnExactTextStepSpec)

/-- 'laws.FnStep', WHERE WHAT IT READS IS OF BULK AT MOST 1048576: true; the input reads as it did. -/
def fnStepUptoRow : OpenClaim := { program := "ythmajaeekkbnnaa", sum := "15c554b6b59b6b7337d0e04bf0f3c7306755e78be7df5616fb48bc53feac4de7", func := "loop.example/g00454/laws.FnStep", spec := "fnStep", recurses := true, apart := false, narrowed := true }
def FnStepUptoSaid : Prop := fnStepUptoRow.holds Try.pinned (OpenSpec.upto fnStepSpec)

end Rows
end Go.Proofs.Ythmajaeekkbnnaa
