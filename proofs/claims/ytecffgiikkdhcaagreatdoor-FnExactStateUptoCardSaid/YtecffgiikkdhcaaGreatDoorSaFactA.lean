/- Facts of the row of FnExactState, reckoned by the kernel, part 1. Conditions: none. -/
import Derived.Test.YtecffgiikkdhcaaGreatDoorCards
import Derived.Test.YtecffgiikkdhcaaGreatDoorTie
import Derived.WalkKit
import Derived.ProofKit
import Derived.OpenShut
import Derived.Deep.DeepHandedRow
import Derived.Lib.LaidTab
import Derived.LaidSub
import Derived.MakeChecks
namespace Go.Proofs.YtecffgiikkdhcaaGreatDoor.FnExactState
open Go Go.ChangeShapes Go.WideShapes Go.ChangeAt Go.RowKit
set_option linter.unusedVariables false

theorem closedOk : joinedFacts Tryz.pinned.checked.prog 4 Tryz.f4 (Rows.OpenSpec.upto Rows.fnExactStateSpec).bare Rows.fnExactStateUptoRow = true := by kernel_rfl
end Go.Proofs.YtecffgiikkdhcaaGreatDoor.FnExactState
