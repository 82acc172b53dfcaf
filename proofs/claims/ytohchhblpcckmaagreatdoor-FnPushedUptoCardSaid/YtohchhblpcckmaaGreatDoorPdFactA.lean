/- Facts of the row of FnPushed, reckoned by the kernel, part 1. Conditions: none. -/
import Derived.Test.YtohchhblpcckmaaGreatDoorCards
import Derived.Test.YtohchhblpcckmaaGreatDoorTie
import Derived.WalkKit
import Derived.ProofKit
import Derived.OpenShut
import Derived.Deep.DeepHandedRow
import Derived.Lib.LaidTab
import Derived.LaidSub
import Derived.MakeChecks
namespace Go.Proofs.YtohchhblpcckmaaGreatDoor.FnPushed
open Go Go.ChangeShapes Go.WideShapes Go.ChangeAt Go.RowKit
set_option linter.unusedVariables false

noncomputable abbrev at_ (p : Program → FuncId → Func → ChangeSpec → OpenClaim → Bool) : Bool := p Tryz.pinned.checked.prog 5 Tryz.f5 (Rows.OpenSpec.upto Rows.fnPushedSpec).bare Rows.fnPushedUptoRow
theorem Ii : at_ (fun P f fn s c => (c.wf (OpenSpec.ofChange s))) = true := by kernel_rfl
theorem Ij : at_ (fun P f fn s c => (laidOutB P)) = true := by kernel_rfl
theorem Iu : at_ (fun P f fn s c => (mapsRowed P)) = true := by kernel_rfl
theorem IF : at_ (fun P f fn s c => (fn.params.all (P.readableRec ·))) = true := by kernel_rfl
theorem II : at_ (fun P f fn s c => (namedTie P c.named s.vars)) = true := by kernel_rfl
theorem IJ : at_ (fun P f fn s c => ((c.stops == []))) = true := by kernel_rfl
theorem IK : at_ (fun P f fn s c => ((P.stops == []))) = true := by kernel_rfl
theorem IL : at_ (fun P f fn s c => ((c.knobs == []))) = true := by kernel_rfl
theorem IM : at_ (fun P f fn s c => ((P.stopKnobs == []))) = true := by kernel_rfl
theorem IN : at_ (fun P f fn s c => ((c.inPlace == P.inPlace f))) = true := by kernel_rfl
theorem Ik : at_ (fun P f fn s c => ((c.unfollowed == P.unfollowed f))) = true := by kernel_rfl
theorem Il : at_ (fun P f fn s c => ((c.recurses == P.recurses f))) = true := by kernel_rfl
theorem Im : at_ (fun P f fn s c => ((c.named == P.varsNamed f))) = true := by kernel_rfl
theorem In : at_ (fun P f fn s c => ((c.maps == (fn.params.toList ++ s.plain.varTypes P).any (P.mapsRec ·)))) = true := by kernel_rfl
theorem Io : at_ (fun P f fn s c => ((c.ifaces == (fn.params.toList ++ s.plain.varTypes P).any (P.ifacesRec ·)))) = true := by kernel_rfl
theorem Ip : at_ (fun P f fn s c => ((c.mapsOut == P.mapsAmong fn.resultTypes.toList))) = true := by kernel_rfl
theorem Iq : at_ (fun P f fn s c => ((c.loops == (fn.params.toList ++ s.plain.varTypes P).any (P.loopsFrom ·)))) = true := by kernel_rfl
theorem Ir : at_ (fun P f fn s c => ((c.wideKeys == (fn.params.toList ++ s.plain.varTypes P ++ fn.resultTypes.toList).any (P.wideKeysFrom ·)))) = true := by kernel_rfl
theorem Is : at_ (fun P f fn s c => (s.vars.all (P.varReadable ·))) = true := by kernel_rfl
theorem It : at_ (fun P f fn s c => (fn.resultTypes.all (fun t => P.readableRec t && decide (t < P.types.size)))) = true := by kernel_rfl
theorem Iv : at_ (fun P f fn s c => ((c.ifacesOut == fn.resultTypes.toList.any (P.ifacesRec ·)))) = true := by kernel_rfl
theorem Iw : at_ (fun P f fn s c => ((c.loopsOut == fn.resultTypes.toList.any (P.loopsFrom ·)))) = true := by kernel_rfl
theorem Ix : at_ (fun P f fn s c => ((c.plainKeys == P.plainKeys))) = true := by kernel_rfl
theorem Iy : at_ (fun P f fn s c => (c.shortTexts.isNone)) = true := by kernel_rfl
theorem Iz : at_ (fun P f fn s c => (P.stopsHeard)) = true := by kernel_rfl
theorem IA : at_ (fun P f fn s c => (P.mayEnter)) = true := by kernel_rfl
theorem IB : at_ (fun P f fn s c => ((c.lifted == P.liftsFinal))) = true := by kernel_rfl
theorem IC : at_ (fun P f fn s c => ((P.make == some c.make))) = true := by kernel_rfl
theorem ID : at_ (fun P f fn s c => ((c.kinds == (if c.domain.isEmpty then [] else fn.params.toList.map fun t => match P.underlying t with | some (.int k) => some k | _ => none)))) = true := by kernel_rfl
theorem IE : at_ (fun P f fn s c => ((c.pinned == c.pinnedBy))) = true := by kernel_rfl
theorem IG : at_ (fun P f fn s c => ((c.veiled == (fn.params.toList ++ s.plain.varTypes P ++ fn.resultTypes.toList).any (P.veiledRec ·)))) = true := by kernel_rfl
theorem IH : at_ (fun P f fn s c => (c.veiledFits P fn.params.toList (fn.params.toList ++ s.plain.varTypes P ++ fn.resultTypes.toList))) = true := by kernel_rfl
theorem both {a b : Bool} (h1 : a = true) (h2 : b = true) : (a && b) = true := by rw [h1, h2]; rfl
set_option maxRecDepth 100000 in
theorem IO : joinedFacts Tryz.pinned.checked.prog 5 Tryz.f5 (Rows.OpenSpec.upto Rows.fnPushedSpec).bare Rows.fnPushedUptoRow = true := by
  unfold joinedFacts
  exact (both (both (both (both (both (both (both (both (both (both (both (both (both (both (both (both (both (both (both (both (both (both (both (both (both (both (both (both (both (both (both Ii Ij) Iu) IF) II) IJ) IK) IL) IM) IN) Ik) Il) Im) In) Io) Ip) Iq) Ir) Is) It) Iv) Iw) Ix) Iy) Iz) IA) IB) IC) ID) IE) IG) IH)
end Go.Proofs.YtohchhblpcckmaaGreatDoor.FnPushed
