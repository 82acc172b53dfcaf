/- Facts of the row of FnAsksOnce, reckoned by the kernel, part 1. Conditions: none. -/
import Derived.Test.YtbpajdecanoolaaGreatDoorCards
import Derived.Test.YtbpajdecanoolaaGreatDoorTie
import Derived.WalkKit
import Derived.ProofKit
import Derived.OpenShut
import Derived.Deep.DeepHandedRow
import Derived.Lib.LaidTab
import Derived.LaidSub
import Derived.MakeChecks
namespace Go.Proofs.YtbpajdecanoolaaGreatDoor.FnAsksOnce
open Go Go.ChangeShapes Go.WideShapes Go.ChangeAt Go.RowKit
set_option linter.unusedVariables false

noncomputable abbrev at_ (p : Program → FuncId → Func → ChangeSpec → OpenClaim → Bool) : Bool := p Tryz.pinned.checked.prog 4 Tryz.f4 (Rows.OpenSpec.upto Rows.fnAsksOnceSpec).bare Rows.fnAsksOnceUptoRow
theorem Uq : at_ (fun P f fn s c => (c.wf (OpenSpec.ofChange s))) = true := by kernel_rfl
theorem Ur : at_ (fun P f fn s c => (laidOutB P)) = true := by kernel_rfl
theorem UC : at_ (fun P f fn s c => (mapsRowed P)) = true := by kernel_rfl
theorem UN : at_ (fun P f fn s c => (fn.params.all (P.readableRec ·))) = true := by kernel_rfl
theorem UQ : at_ (fun P f fn s c => (namedTie P c.named s.vars)) = true := by kernel_rfl
theorem UR : at_ (fun P f fn s c => ((c.stops == []))) = true := by kernel_rfl
theorem US : at_ (fun P f fn s c => ((P.stops == []))) = true := by kernel_rfl
theorem UT : at_ (fun P f fn s c => ((c.knobs == []))) = true := by kernel_rfl
theorem UU : at_ (fun P f fn s c => ((P.stopKnobs == []))) = true := by kernel_rfl
theorem UV : at_ (fun P f fn s c => ((c.inPlace == P.inPlace f))) = true := by kernel_rfl
theorem Us : at_ (fun P f fn s c => ((c.unfollowed == P.unfollowed f))) = true := by kernel_rfl
theorem Ut : at_ (fun P f fn s c => ((c.recurses == P.recurses f))) = true := by kernel_rfl
theorem Uu : at_ (fun P f fn s c => ((c.named == P.varsNamed f))) = true := by kernel_rfl
theorem Uv : at_ (fun P f fn s c => ((c.maps == (fn.params.toList ++ s.plain.varTypes P).any (P.mapsRec ·)))) = true := by kernel_rfl
theorem Uw : at_ (fun P f fn s c => ((c.ifaces == (fn.params.toList ++ s.plain.varTypes P).any (P.ifacesRec ·)))) = true := by kernel_rfl
theorem Ux : at_ (fun P f fn s c => ((c.mapsOut == P.mapsAmong fn.resultTypes.toList))) = true := by kernel_rfl
theorem Uy : at_ (fun P f fn s c => ((c.loops == (fn.params.toList ++ s.plain.varTypes P).any (P.loopsFrom ·)))) = true := by kernel_rfl
theorem Uz : at_ (fun P f fn s c => ((c.wideKeys == (fn.params.toList ++ s.plain.varTypes P ++ fn.resultTypes.toList).any (P.wideKeysFrom ·)))) = true := by kernel_rfl
theorem UA : at_ (fun P f fn s c => (s.vars.all (P.varReadable ·))) = true := by kernel_rfl
theorem UB : at_ (fun P f fn s c => (fn.resultTypes.all (fun t => P.readableRec t && decide (t < P.types.size)))) = true := by kernel_rfl
theorem UD : at_ (fun P f fn s c => ((c.ifacesOut == fn.resultTypes.toList.any (P.ifacesRec ·)))) = true := by kernel_rfl
theorem UE : at_ (fun P f fn s c => ((c.loopsOut == fn.resultTypes.toList.any (P.loopsFrom ·)))) = true := by kernel_rfl
theorem UF : at_ (fun P f fn s c => ((c.plainKeys == P.plainKeys))) = true := by kernel_rfl
theorem UG : at_ (fun P f fn s c => (c.shortTexts.isNone)) = true := by kernel_rfl
theorem UH : at_ (fun P f fn s c => (P.stopsHeard)) = true := by kernel_rfl
theorem UI : at_ (fun P f fn s c => (P.mayEnter)) = true := by kernel_rfl
theorem UJ : at_ (fun P f fn s c => ((c.lifted == P.liftsFinal))) = true := by kernel_rfl
theorem UK : at_ (fun P f fn s c => ((P.make == some c.make))) = true := by kernel_rfl
theorem UL : at_ (fun P f fn s c => ((c.kinds == (if c.domain.isEmpty then [] else fn.params.toList.map fun t => match P.underlying t with | some (.int k) => some k | _ => none)))) = true := by kernel_rfl
theorem UM : at_ (fun P f fn s c => ((c.pinned == c.pinnedBy))) = true := by kernel_rfl
theorem UO : at_ (fun P f fn s c => ((c.veiled == (fn.params.toList ++ s.plain.varTypes P ++ fn.resultTypes.toList).any (P.veiledRec ·)))) = true := by kernel_rfl
theorem UP : at_ (fun P f fn s c => (c.veiledFits P fn.params.toList (fn.params.toList ++ s.plain.varTypes P ++ fn.resultTypes.toList))) = true := by kernel_rfl
theorem both {a b : Bool} (h1 : a = true) (h2 : b = true) : (a && b) = true := by rw [h1, h2]; rfl
set_option maxRecDepth 100000 in
theorem UW : joinedFacts Tryz.pinned.checked.prog 4 Tryz.f4 (Rows.OpenSpec.upto Rows.fnAsksOnceSpec).bare Rows.fnAsksOnceUptoRow = true := by
  unfold joinedFacts
  exact (both (both (both (both (both (both (both (both (both (both (both (both (both (both (both (both (both (both (both (both (both (both (both (both (both (both (both (both (both (both (both Uq Ur) UC) UN) UQ) UR) US) UT) UU) UV) Us) Ut) Uu) Uv) Uw) Ux) Uy) Uz) UA) UB) UD) UE) UF) UG) UH) UI) UJ) UK) UL) UM) UO) UP)
end Go.Proofs.YtbpajdecanoolaaGreatDoor.FnAsksOnce
