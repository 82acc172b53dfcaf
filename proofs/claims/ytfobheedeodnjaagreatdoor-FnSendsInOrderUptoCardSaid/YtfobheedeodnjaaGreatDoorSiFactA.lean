/- Facts of the row of FnSendsInOrder, reckoned by the kernel, part 1. Conditions: none. -/
import Derived.Test.YtfobheedeodnjaaGreatDoorCards
import Derived.Test.YtfobheedeodnjaaGreatDoorTie
import Derived.WalkKit
import Derived.ProofKit
import Derived.OpenShut
import Derived.Deep.DeepHandedRow
import Derived.Lib.LaidTab
import Derived.LaidSub
import Derived.MakeChecks
namespace Go.Proofs.YtfobheedeodnjaaGreatDoor.FnSendsInOrder
open Go Go.ChangeShapes Go.WideShapes Go.ChangeAt Go.RowKit
set_option linter.unusedVariables false

noncomputable abbrev at_ (p : Program → FuncId → Func → ChangeSpec → OpenClaim → Bool) : Bool := p Tryz.pinned.checked.prog 4 Tryz.f4 (Rows.OpenSpec.upto Rows.fnSendsInOrderSpec).bare Rows.fnSendsInOrderUptoRow
theorem GA : at_ (fun P f fn s c => (c.wf (OpenSpec.ofChange s))) = true := by kernel_rfl
theorem GB : at_ (fun P f fn s c => (laidOutB P)) = true := by kernel_rfl
theorem GM : at_ (fun P f fn s c => (mapsRowed P)) = true := by kernel_rfl
theorem GX : at_ (fun P f fn s c => (fn.params.all (P.readableRec ·))) = true := by kernel_rfl
theorem G0 : at_ (fun P f fn s c => (namedTie P c.named s.vars)) = true := by kernel_rfl
theorem G1 : at_ (fun P f fn s c => ((c.stops == []))) = true := by kernel_rfl
theorem G2 : at_ (fun P f fn s c => ((P.stops == []))) = true := by kernel_rfl
theorem G3 : at_ (fun P f fn s c => ((c.knobs == []))) = true := by kernel_rfl
theorem G4 : at_ (fun P f fn s c => ((P.stopKnobs == []))) = true := by kernel_rfl
theorem G5 : at_ (fun P f fn s c => ((c.inPlace == P.inPlace f))) = true := by kernel_rfl
theorem GC : at_ (fun P f fn s c => ((c.unfollowed == P.unfollowed f))) = true := by kernel_rfl
theorem GD : at_ (fun P f fn s c => ((c.recurses == P.recurses f))) = true := by kernel_rfl
theorem GE : at_ (fun P f fn s c => ((c.named == P.varsNamed f))) = true := by kernel_rfl
theorem GF : at_ (fun P f fn s c => ((c.maps == (fn.params.toList ++ s.plain.varTypes P).any (P.mapsRec ·)))) = true := by kernel_rfl
theorem GG : at_ (fun P f fn s c => ((c.ifaces == (fn.params.toList ++ s.plain.varTypes P).any (P.ifacesRec ·)))) = true := by kernel_rfl
theorem GH : at_ (fun P f fn s c => ((c.mapsOut == P.mapsAmong fn.resultTypes.toList))) = true := by kernel_rfl
theorem GI : at_ (fun P f fn s c => ((c.loops == (fn.params.toList ++ s.plain.varTypes P).any (P.loopsFrom ·)))) = true := by kernel_rfl
theorem GJ : at_ (fun P f fn s c => ((c.wideKeys == (fn.params.toList ++ s.plain.varTypes P ++ fn.resultTypes.toList).any (P.wideKeysFrom ·)))) = true := by kernel_rfl
theorem GK : at_ (fun P f fn s c => (s.vars.all (P.varReadable ·))) = true := by kernel_rfl
theorem GL : at_ (fun P f fn s c => (fn.resultTypes.all (fun t => P.readableRec t && decide (t < P.types.size)))) = true := by kernel_rfl
theorem GN : at_ (fun P f fn s c => ((c.ifacesOut == fn.resultTypes.toList.any (P.ifacesRec ·)))) = true := by kernel_rfl
theorem GO : at_ (fun P f fn s c => ((c.loopsOut == fn.resultTypes.toList.any (P.loopsFrom ·)))) = true := by kernel_rfl
theorem GP : at_ (fun P f fn s c => ((c.plainKeys == P.plainKeys))) = true := by kernel_rfl
theorem GQ : at_ (fun P f fn s c => (c.shortTexts.isNone)) = true := by kernel_rfl
theorem GR : at_ (fun P f fn s c => (P.stopsHeard)) = true := by kernel_rfl
theorem GS : at_ (fun P f fn s c => (P.mayEnter)) = true := by kernel_rfl
theorem GT : at_ (fun P f fn s c => ((c.lifted == P.liftsFinal))) = true := by kernel_rfl
theorem GU : at_ (fun P f fn s c => ((P.make == some c.make))) = true := by kernel_rfl
theorem GV : at_ (fun P f fn s c => ((c.kinds == (if c.domain.isEmpty then [] else fn.params.toList.map fun t => match P.underlying t with | some (.int k) => some k | _ => none)))) = true := by kernel_rfl
theorem GW : at_ (fun P f fn s c => ((c.pinned == c.pinnedBy))) = true := by kernel_rfl
theorem GY : at_ (fun P f fn s c => ((c.veiled == (fn.params.toList ++ s.plain.varTypes P ++ fn.resultTypes.toList).any (P.veiledRec ·)))) = true := by kernel_rfl
theorem GZ : at_ (fun P f fn s c => (c.veiledFits P fn.params.toList (fn.params.toList ++ s.plain.varTypes P ++ fn.resultTypes.toList))) = true := by kernel_rfl
theorem both {a b : Bool} (h1 : a = true) (h2 : b = true) : (a && b) = true := by rw [h1, h2]; rfl
set_option maxRecDepth 100000 in
theorem G6 : joinedFacts Tryz.pinned.checked.prog 4 Tryz.f4 (Rows.OpenSpec.upto Rows.fnSendsInOrderSpec).bare Rows.fnSendsInOrderUptoRow = true := by
  unfold joinedFacts
  exact (both (both (both (both (both (both (both (both (both (both (both (both (both (both (both (both (both (both (both (both (both (both (both (both (both (both (both (both (both (both (both GA GB) GM) GX) G0) G1) G2) G3) G4) G5) GC) GD) GE) GF) GG) GH) GI) GJ) GK) GL) GN) GO) GP) GQ) GR) GS) GT) GU) GV) GW) GY) GZ)
end Go.Proofs.YtfobheedeodnjaaGreatDoor.FnSendsInOrder
