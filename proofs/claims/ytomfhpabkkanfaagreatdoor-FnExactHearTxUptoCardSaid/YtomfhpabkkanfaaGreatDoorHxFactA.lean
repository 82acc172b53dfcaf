/- Facts of the row of FnExactHearTx, reckoned by the kernel, part 1. Conditions: none. -/
import Derived.Test.YtomfhpabkkanfaaGreatDoorCards
import Derived.Test.YtomfhpabkkanfaaGreatDoorTie
import Derived.WalkKit
import Derived.ProofKit
import Derived.OpenShut
import Derived.Deep.DeepHandedRow
import Derived.Lib.LaidTab
import Derived.LaidSub
import Derived.MakeChecks
namespace Go.Proofs.YtomfhpabkkanfaaGreatDoor.FnExactHearTx
open Go Go.ChangeShapes Go.WideShapes Go.ChangeAt Go.RowKit
set_option linter.unusedVariables false

theorem closedOk : joinedFacts Tryz.pinned.checked.prog 6 Tryz.f6 (Rows.OpenSpec.upto Rows.fnExactHearTxSpec).bare Rows.fnExactHearTxUptoRow = true := by kernel_rfl
end Go.Proofs.YtomfhpabkkanfaaGreatDoor.FnExactHearTx
