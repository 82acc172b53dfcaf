/- Facts of the row of FnCertified, reckoned by the kernel, part 1. Conditions: none. -/
import Derived.Test.YthcbhmiocejpjaaGreatDoorCards
import Derived.Test.YthcbhmiocejpjaaGreatDoorTie
import Derived.WalkKit
import Derived.ProofKit
import Derived.OpenShut
import Derived.Deep.DeepHandedRow
import Derived.Lib.LaidTab
import Derived.LaidSub
import Derived.MakeChecks
namespace Go.Proofs.YthcbhmiocejpjaaGreatDoor.FnCertified
open Go Go.ChangeShapes Go.WideShapes Go.ChangeAt Go.RowKit
set_option linter.unusedVariables false

noncomputable abbrev at_ (p : Program → FuncId → Func → ChangeSpec → OpenClaim → Bool) : Bool := p Tryz.pinned.checked.prog 3 Tryz.f3 (Rows.OpenSpec.upto Rows.fnCertifiedSpec).bare Rows.fnCertifiedUptoRow
theorem U8 : at_ (fun P f fn s c => (c.wf (OpenSpec.ofChange s))) = true := by kernel_rfl
theorem U9 : at_ (fun P f fn s c => (laidOutB P)) = true := by kernel_rfl
theorem Vk : at_ (fun P f fn s c => (mapsRowed P)) = true := by kernel_rfl
theorem Vw : at_ (fun P f fn s c => (fn.params.all (P.readableRec ·))) = true := by kernel_rfl
theorem Vz : at_ (fun P f fn s c => (namedTie P c.named s.vars)) = true := by kernel_rfl
theorem VA : at_ (fun P f fn s c => ((c.stops == []))) = true := by kernel_rfl
theorem VB : at_ (fun P f fn s c => ((P.stops == []))) = true := by kernel_rfl
theorem VC : at_ (fun P f fn s c => ((c.knobs == []))) = true := by kernel_rfl
theorem VD : at_ (fun P f fn s c => ((P.stopKnobs == []))) = true := by kernel_rfl
theorem VE : at_ (fun P f fn s c => ((c.inPlace == P.inPlace f))) = true := by kernel_rfl
theorem Va : at_ (fun P f fn s c => ((c.unfollowed == P.unfollowed f))) = true := by kernel_rfl
theorem Vb : at_ (fun P f fn s c => ((c.recurses == P.recurses f))) = true := by kernel_rfl
theorem Vc : at_ (fun P f fn s c => ((c.named == P.varsNamed f))) = true := by kernel_rfl
theorem Vd : at_ (fun P f fn s c => ((c.maps == (fn.params.toList ++ s.plain.varTypes P).any (P.mapsRec ·)))) = true := by kernel_rfl
theorem Ve : at_ (fun P f fn s c => ((c.ifaces == (fn.params.toList ++ s.plain.varTypes P).any (P.ifacesRec ·)))) = true := by kernel_rfl
theorem Vf : at_ (fun P f fn s c => ((c.mapsOut == P.mapsAmong fn.resultTypes.toList))) = true := by kernel_rfl
theorem Vg : at_ (fun P f fn s c => ((c.loops == (fn.params.toList ++ s.plain.varTypes P).any (P.loopsFrom ·)))) = true := by kernel_rfl
theorem Vh : at_ (fun P f fn s c => ((c.wideKeys == (fn.params.toList ++ s.plain.varTypes P ++ fn.resultTypes.toList).any (P.wideKeysFrom ·)))) = true := by kernel_rfl
theorem Vi : at_ (fun P f fn s c => (s.vars.all (P.varReadable ·))) = true := by kernel_rfl
theorem Vj : at_ (fun P f fn s c => (fn.resultTypes.all (fun t => P.readableRec t && decide (t < P.types.size)))) = true := by kernel_rfl
theorem Vl : at_ (fun P f fn s c => ((c.ifacesOut == fn.resultTypes.toList.any (P.ifacesRec ·)))) = true := by kernel_rfl
theorem Vm : at_ (fun P f fn s c => ((c.loopsOut == fn.resultTypes.toList.any (P.loopsFrom ·)))) = true := by kernel_rfl
theorem Vn : at_ (fun P f fn s c => ((c.plainKeys == P.plainKeys))) = true := by kernel_rfl
theorem Vo : at_ (fun P f fn s c => (c.shortTexts.isNone)) = true := by kernel_rfl
theorem Vp : at_ (fun P f fn s c => (P.stopsHeard)) = true := by kernel_rfl
theorem Vq : at_ (fun P f fn s c => (P.mayEnter)) = true := by kernel_rfl
theorem Vr : at_ (fun P f fn s c => ((c.lifted == P.liftsFinal))) = true := by kernel_rfl
theorem Vs : at_ (fun P f fn s c => ((P.make == some c.make))) = true := by kernel_rfl
theorem Vu : at_ (fun P f fn s c => ((c.kinds == (if c.domain.isEmpty then [] else fn.params.toList.map fun t => match P.underlying t with | some (.int k) => some k | _ => none)))) = true := by kernel_rfl
theorem Vv : at_ (fun P f fn s c => ((c.pinned == c.pinnedBy))) = true := by kernel_rfl
theorem Vx : at_ (fun P f fn s c => ((c.veiled == (fn.params.toList ++ s.plain.varTypes P ++ fn.resultTypes.toList).any (P.veiledRec ·)))) = true := by kernel_rfl
theorem Vy : at_ (fun P f fn s c => (c.veiledFits P fn.params.toList (fn.params.toList ++ s.plain.varTypes P ++ fn.resultTypes.toList))) = true := by kernel_rfl
theorem both {a b : Bool} (h1 : a = true) (h2 : b = true) : (a && b) = true := by rw [h1, h2]; rfl
set_option maxRecDepth 100000 in
theorem VF : joinedFacts Tryz.pinned.checked.prog 3 Tryz.f3 (Rows.OpenSpec.upto Rows.fnCertifiedSpec).bare Rows.fnCertifiedUptoRow = true := by
  unfold joinedFacts
  exact (both (both (both (both (both (both (both (both (both (both (both (both (both (both (both (both (both (both (both (both (both (both (both (both (both (both (both (both (both (both (both U8 U9) Vk) Vw) Vz) VA) VB) VC) VD) VE) Va) Vb) Vc) Vd) Ve) Vf) Vg) Vh) Vi) Vj) Vl) Vm) Vn) Vo) Vp) Vq) Vr) Vs) Vu) Vv) Vx) Vy)
end Go.Proofs.YthcbhmiocejpjaaGreatDoor.FnCertified
