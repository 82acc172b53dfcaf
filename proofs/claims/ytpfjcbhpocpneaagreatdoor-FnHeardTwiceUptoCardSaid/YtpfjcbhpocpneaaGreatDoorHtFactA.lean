/- Facts of the row of FnHeardTwice, reckoned by the kernel, part 1. Conditions: none. -/
import Derived.Test.YtpfjcbhpocpneaaGreatDoorCards
import Derived.Test.YtpfjcbhpocpneaaGreatDoorTie
import Derived.WalkKit
import Derived.ProofKit
import Derived.OpenShut
import Derived.Deep.DeepHandedRow
import Derived.Lib.LaidTab
import Derived.LaidSub
import Derived.MakeChecks
namespace Go.Proofs.YtpfjcbhpocpneaaGreatDoor.FnHeardTwice
open Go Go.ChangeShapes Go.WideShapes Go.ChangeAt Go.RowKit
set_option linter.unusedVariables false

noncomputable abbrev at_ (p : Program → FuncId → Func → ChangeSpec → OpenClaim → Bool) : Bool := p Tryz.pinned.checked.prog 5 Tryz.f5 (Rows.OpenSpec.upto Rows.fnHeardTwiceSpec).bare Rows.fnHeardTwiceUptoRow
theorem Pn : at_ (fun P f fn s c => (c.wf (OpenSpec.ofChange s))) = true := by kernel_rfl
theorem Po : at_ (fun P f fn s c => (laidOutB P)) = true := by kernel_rfl
theorem Pz : at_ (fun P f fn s c => (mapsRowed P)) = true := by kernel_rfl
theorem PM : at_ (fun P f fn s c => (fn.params.all (P.readableRec ·))) = true := by kernel_rfl
theorem PP : at_ (fun P f fn s c => (namedTie P c.named s.vars)) = true := by kernel_rfl
theorem PQ : at_ (fun P f fn s c => ((c.stops == []))) = true := by kernel_rfl
theorem PR : at_ (fun P f fn s c => ((P.stops == []))) = true := by kernel_rfl
theorem PS : at_ (fun P f fn s c => ((c.knobs == []))) = true := by kernel_rfl
theorem PT : at_ (fun P f fn s c => ((P.stopKnobs == []))) = true := by kernel_rfl
theorem PU : at_ (fun P f fn s c => ((c.inPlace == P.inPlace f))) = true := by kernel_rfl
theorem Pp : at_ (fun P f fn s c => ((c.unfollowed == P.unfollowed f))) = true := by kernel_rfl
theorem Pq : at_ (fun P f fn s c => ((c.recurses == P.recurses f))) = true := by kernel_rfl
theorem Pr : at_ (fun P f fn s c => ((c.named == P.varsNamed f))) = true := by kernel_rfl
theorem Ps : at_ (fun P f fn s c => ((c.maps == (fn.params.toList ++ s.plain.varTypes P).any (P.mapsRec ·)))) = true := by kernel_rfl
theorem Pt : at_ (fun P f fn s c => ((c.ifaces == (fn.params.toList ++ s.plain.varTypes P).any (P.ifacesRec ·)))) = true := by kernel_rfl
theorem Pu : at_ (fun P f fn s c => ((c.mapsOut == P.mapsAmong fn.resultTypes.toList))) = true := by kernel_rfl
theorem Pv : at_ (fun P f fn s c => ((c.loops == (fn.params.toList ++ s.plain.varTypes P).any (P.loopsFrom ·)))) = true := by kernel_rfl
theorem Pw : at_ (fun P f fn s c => ((c.wideKeys == (fn.params.toList ++ s.plain.varTypes P ++ fn.resultTypes.toList).any (P.wideKeysFrom ·)))) = true := by kernel_rfl
theorem Px : at_ (fun P f fn s c => (s.vars.all (P.varReadable ·))) = true := by kernel_rfl
theorem Py : at_ (fun P f fn s c => (fn.resultTypes.all (fun t => P.readableRec t && decide (t < P.types.size)))) = true := by kernel_rfl
theorem PA : at_ (fun P f fn s c => ((c.ifacesOut == fn.resultTypes.toList.any (P.ifacesRec ·)))) = true := by kernel_rfl
theorem PB : at_ (fun P f fn s c => ((c.loopsOut == fn.resultTypes.toList.any (P.loopsFrom ·)))) = true := by kernel_rfl
theorem PC : at_ (fun P f fn s c => ((c.plainKeys == P.plainKeys))) = true := by kernel_rfl
theorem PD : at_ (fun P f fn s c => (c.shortTexts.isNone)) = true := by kernel_rfl
theorem PE : at_ (fun P f fn s c => (P.stopsHeard)) = true := by kernel_rfl
theorem PG : at_ (fun P f fn s c => (P.mayEnter)) = true := by kernel_rfl
theorem PH : at_ (fun P f fn s c => ((c.lifted == P.liftsFinal))) = true := by kernel_rfl
theorem PI : at_ (fun P f fn s c => ((P.make == some c.make))) = true := by kernel_rfl
theorem PJ : at_ (fun P f fn s c => ((c.kinds == (if c.domain.isEmpty then [] else fn.params.toList.map fun t => match P.underlying t with | some (.int k) => some k | _ => none)))) = true := by kernel_rfl
theorem PL : at_ (fun P f fn s c => ((c.pinned == c.pinnedBy))) = true := by kernel_rfl
theorem PN : at_ (fun P f fn s c => ((c.veiled == (fn.params.toList ++ s.plain.varTypes P ++ fn.resultTypes.toList).any (P.veiledRec ·)))) = true := by kernel_rfl
theorem PO : at_ (fun P f fn s c => (c.veiledFits P fn.params.toList (fn.params.toList ++ s.plain.varTypes P ++ fn.resultTypes.toList))) = true := by kernel_rfl
theorem both {a b : Bool} (h1 : a = true) (h2 : b = true) : (a && b) = true := by rw [h1, h2]; rfl
set_option maxRecDepth 100000 in
theorem PV : joinedFacts Tryz.pinned.checked.prog 5 Tryz.f5 (Rows.OpenSpec.upto Rows.fnHeardTwiceSpec).bare Rows.fnHeardTwiceUptoRow = true := by
  unfold joinedFacts
  exact (both (both (both (both (both (both (both (both (both (both (both (both (both (both (both (both (both (both (both (both (both (both (both (both (both (both (both (both (both (both (both Pn Po) Pz) PM) PP) PQ) PR) PS) PT) PU) Pp) Pq) Pr) Ps) Pt) Pu) Pv) Pw) Px) Py) PA) PB) PC) PD) PE) PG) PH) PI) PJ) PL) PN) PO)
end Go.Proofs.YtpfjcbhpocpneaaGreatDoor.FnHeardTwice
