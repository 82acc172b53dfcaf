/- Facts of the row of FnLiars, reckoned by the kernel, part 1. Conditions: none. -/
import Derived.Test.YtcjibmnpaojglaaGreatDoorCards
import Derived.Test.YtcjibmnpaojglaaGreatDoorTie
import Derived.WalkKit
import Derived.ProofKit
import Derived.OpenShut
import Derived.Deep.DeepHandedRow
import Derived.Lib.LaidTab
import Derived.LaidSub
import Derived.MakeChecks
namespace Go.Proofs.YtcjibmnpaojglaaGreatDoor.FnLiars
open Go Go.ChangeShapes Go.WideShapes Go.ChangeAt Go.RowKit
set_option linter.unusedVariables false

noncomputable abbrev at_ (p : Program → FuncId → Func → ChangeSpec → OpenClaim → Bool) : Bool := p Tryz.pinned.checked.prog 3 Tryz.f3 (Rows.OpenSpec.upto Rows.fnLiarsSpec).bare Rows.fnLiarsUptoRow
theorem closed0 : at_ (fun P f fn s c => (c.wf (OpenSpec.ofChange s))) = true := by kernel_rfl
theorem closed1 : at_ (fun P f fn s c => (laidOutB P)) = true := by kernel_rfl
theorem closed2 : at_ (fun P f fn s c => (mapsRowed P)) = true := by kernel_rfl
theorem closed3 : at_ (fun P f fn s c => (fn.params.all (P.readableRec ·))) = true := by kernel_rfl
theorem closed4 : at_ (fun P f fn s c => (namedTie P c.named s.vars)) = true := by kernel_rfl
theorem closed5 : at_ (fun P f fn s c => ((c.stops == []))) = true := by kernel_rfl
theorem closed6 : at_ (fun P f fn s c => ((P.stops == []))) = true := by kernel_rfl
theorem closed7 : at_ (fun P f fn s c => ((c.knobs == []))) = true := by kernel_rfl
theorem closed8 : at_ (fun P f fn s c => ((P.stopKnobs == []))) = true := by kernel_rfl
theorem closed9 : at_ (fun P f fn s c => ((c.inPlace == P.inPlace f))) = true := by kernel_rfl
theorem closed10 : at_ (fun P f fn s c => ((c.unfollowed == P.unfollowed f))) = true := by kernel_rfl
theorem closed11 : at_ (fun P f fn s c => ((c.recurses == P.recurses f))) = true := by kernel_rfl
theorem closed12 : at_ (fun P f fn s c => ((c.named == P.varsNamed f))) = true := by kernel_rfl
theorem closed13 : at_ (fun P f fn s c => ((c.maps == (fn.params.toList ++ s.plain.varTypes P).any (P.mapsRec ·)))) = true := by kernel_rfl
theorem closed14 : at_ (fun P f fn s c => ((c.ifaces == (fn.params.toList ++ s.plain.varTypes P).any (P.ifacesRec ·)))) = true := by kernel_rfl
theorem closed15 : at_ (fun P f fn s c => ((c.mapsOut == P.mapsAmong fn.resultTypes.toList))) = true := by kernel_rfl
theorem closed16 : at_ (fun P f fn s c => ((c.loops == (fn.params.toList ++ s.plain.varTypes P).any (P.loopsFrom ·)))) = true := by kernel_rfl
theorem closed17 : at_ (fun P f fn s c => ((c.wideKeys == (fn.params.toList ++ s.plain.varTypes P ++ fn.resultTypes.toList).any (P.wideKeysFrom ·)))) = true := by kernel_rfl
theorem closed18 : at_ (fun P f fn s c => (s.vars.all (P.varReadable ·))) = true := by kernel_rfl
theorem closed19 : at_ (fun P f fn s c => (fn.resultTypes.all (fun t => P.readableRec t && decide (t < P.types.size)))) = true := by kernel_rfl
theorem closed20 : at_ (fun P f fn s c => ((c.ifacesOut == fn.resultTypes.toList.any (P.ifacesRec ·)))) = true := by kernel_rfl
theorem closed21 : at_ (fun P f fn s c => ((c.loopsOut == fn.resultTypes.toList.any (P.loopsFrom ·)))) = true := by kernel_rfl
theorem closed22 : at_ (fun P f fn s c => ((c.plainKeys == P.plainKeys))) = true := by kernel_rfl
theorem closed23 : at_ (fun P f fn s c => (c.shortTexts.isNone)) = true := by kernel_rfl
theorem closed24 : at_ (fun P f fn s c => (P.stopsHeard)) = true := by kernel_rfl
theorem closed25 : at_ (fun P f fn s c => (P.mayEnter)) = true := by kernel_rfl
theorem closed26 : at_ (fun P f fn s c => ((c.lifted == P.liftsFinal))) = true := by kernel_rfl
theorem closed27 : at_ (fun P f fn s c => ((P.make == some c.make))) = true := by kernel_rfl
theorem closed28 : at_ (fun P f fn s c => ((c.kinds == (if c.domain.isEmpty then [] else fn.params.toList.map fun t => match P.underlying t with | some (.int k) => some k | _ => none)))) = true := by kernel_rfl
theorem closed29 : at_ (fun P f fn s c => ((c.pinned == c.pinnedBy))) = true := by kernel_rfl
theorem closed30 : at_ (fun P f fn s c => ((c.veiled == (fn.params.toList ++ s.plain.varTypes P ++ fn.resultTypes.toList).any (P.veiledRec ·)))) = true := by kernel_rfl
theorem closed31 : at_ (fun P f fn s c => (c.veiledFits P fn.params.toList (fn.params.toList ++ s.plain.varTypes P ++ fn.resultTypes.toList))) = true := by kernel_rfl
theorem both {a b : Bool} (h1 : a = true) (h2 : b = true) : (a && b) = true := by rw [h1, h2]; rfl
set_option maxRecDepth 100000 in
theorem closedOk : joinedFacts Tryz.pinned.checked.prog 3 Tryz.f3 (Rows.OpenSpec.upto Rows.fnLiarsSpec).bare Rows.fnLiarsUptoRow = true := by
  unfold joinedFacts
  exact (both (both (both (both (both (both (both (both (both (both (both (both (both (both (both (both (both (both (both (both (both (both (both (both (both (both (both (both (both (both (both closed0 closed1) closed2) closed3) closed4) closed5) closed6) closed7) closed8) closed9) closed10) closed11) closed12) closed13) closed14) closed15) closed16) closed17) closed18) closed19) closed20) closed21) closed22) closed23) closed24) closed25) closed26) closed27) closed28) closed29) closed30) closed31)
end Go.Proofs.YtcjibmnpaojglaaGreatDoor.FnLiars
