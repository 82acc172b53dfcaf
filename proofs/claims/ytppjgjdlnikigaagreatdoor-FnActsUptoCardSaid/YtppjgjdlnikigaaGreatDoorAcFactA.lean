/- Facts of the row of FnActs, reckoned by the kernel, part 1. Conditions: none. -/
import Derived.Test.YtppjgjdlnikigaaGreatDoorCards
import Derived.Test.YtppjgjdlnikigaaGreatDoorTie
import Derived.WalkKit
import Derived.ProofKit
import Derived.OpenShut
import Derived.Deep.DeepHandedRow
import Derived.Lib.LaidTab
import Derived.LaidSub
import Derived.MakeChecks
namespace Go.Proofs.YtppjgjdlnikigaaGreatDoor.FnActs
open Go Go.ChangeShapes Go.WideShapes Go.ChangeAt Go.RowKit
set_option linter.unusedVariables false

noncomputable abbrev at_ (p : Program → FuncId → Func → ChangeSpec → OpenClaim → Bool) : Bool := p Tryz.pinned.checked.prog 4 Tryz.f4 (Rows.OpenSpec.upto Rows.fnActsSpec).bare Rows.fnActsUptoRow
theorem PT : at_ (fun P f fn s c => (c.wf (OpenSpec.ofChange s))) = true := by kernel_rfl
theorem PU : at_ (fun P f fn s c => (laidOutB P)) = true := by kernel_rfl
theorem P7 : at_ (fun P f fn s c => (mapsRowed P)) = true := by kernel_rfl
theorem Rj : at_ (fun P f fn s c => (fn.params.all (P.readableRec ·))) = true := by kernel_rfl
theorem Rm : at_ (fun P f fn s c => (namedTie P c.named s.vars)) = true := by kernel_rfl
theorem Rn : at_ (fun P f fn s c => ((c.stops == []))) = true := by kernel_rfl
theorem Ro : at_ (fun P f fn s c => ((P.stops == []))) = true := by kernel_rfl
theorem Rp : at_ (fun P f fn s c => ((c.knobs == []))) = true := by kernel_rfl
theorem Rq : at_ (fun P f fn s c => ((P.stopKnobs == []))) = true := by kernel_rfl
theorem Rr : at_ (fun P f fn s c => ((c.inPlace == P.inPlace f))) = true := by kernel_rfl
theorem PV : at_ (fun P f fn s c => ((c.unfollowed == P.unfollowed f))) = true := by kernel_rfl
theorem PW : at_ (fun P f fn s c => ((c.recurses == P.recurses f))) = true := by kernel_rfl
theorem PX : at_ (fun P f fn s c => ((c.named == P.varsNamed f))) = true := by kernel_rfl
theorem PY : at_ (fun P f fn s c => ((c.maps == (fn.params.toList ++ s.plain.varTypes P).any (P.mapsRec ·)))) = true := by kernel_rfl
theorem PZ : at_ (fun P f fn s c => ((c.ifaces == (fn.params.toList ++ s.plain.varTypes P).any (P.ifacesRec ·)))) = true := by kernel_rfl
theorem P0 : at_ (fun P f fn s c => ((c.mapsOut == P.mapsAmong fn.resultTypes.toList))) = true := by kernel_rfl
theorem P3 : at_ (fun P f fn s c => ((c.loops == (fn.params.toList ++ s.plain.varTypes P).any (P.loopsFrom ·)))) = true := by kernel_rfl
theorem P4 : at_ (fun P f fn s c => ((c.wideKeys == (fn.params.toList ++ s.plain.varTypes P ++ fn.resultTypes.toList).any (P.wideKeysFrom ·)))) = true := by kernel_rfl
theorem P5 : at_ (fun P f fn s c => (s.vars.all (P.varReadable ·))) = true := by kernel_rfl
theorem P6 : at_ (fun P f fn s c => (fn.resultTypes.all (fun t => P.readableRec t && decide (t < P.types.size)))) = true := by kernel_rfl
theorem P8 : at_ (fun P f fn s c => ((c.ifacesOut == fn.resultTypes.toList.any (P.ifacesRec ·)))) = true := by kernel_rfl
theorem P9 : at_ (fun P f fn s c => ((c.loopsOut == fn.resultTypes.toList.any (P.loopsFrom ·)))) = true := by kernel_rfl
theorem Ra : at_ (fun P f fn s c => ((c.plainKeys == P.plainKeys))) = true := by kernel_rfl
theorem Rb : at_ (fun P f fn s c => (c.shortTexts.isNone)) = true := by kernel_rfl
theorem Rc : at_ (fun P f fn s c => (P.stopsHeard)) = true := by kernel_rfl
theorem Re : at_ (fun P f fn s c => (P.mayEnter)) = true := by kernel_rfl
theorem Rf : at_ (fun P f fn s c => ((c.lifted == P.liftsFinal))) = true := by kernel_rfl
theorem Rg : at_ (fun P f fn s c => ((P.make == some c.make))) = true := by kernel_rfl
theorem Rh : at_ (fun P f fn s c => ((c.kinds == (if c.domain.isEmpty then [] else fn.params.toList.map fun t => match P.underlying t with | some (.int k) => some k | _ => none)))) = true := by kernel_rfl
theorem Ri : at_ (fun P f fn s c => ((c.pinned == c.pinnedBy))) = true := by kernel_rfl
theorem Rk : at_ (fun P f fn s c => ((c.veiled == (fn.params.toList ++ s.plain.varTypes P ++ fn.resultTypes.toList).any (P.veiledRec ·)))) = true := by kernel_rfl
theorem Rl : at_ (fun P f fn s c => (c.veiledFits P fn.params.toList (fn.params.toList ++ s.plain.varTypes P ++ fn.resultTypes.toList))) = true := by kernel_rfl
theorem both {a b : Bool} (h1 : a = true) (h2 : b = true) : (a && b) = true := by rw [h1, h2]; rfl
set_option maxRecDepth 100000 in
theorem Rs : joinedFacts Tryz.pinned.checked.prog 4 Tryz.f4 (Rows.OpenSpec.upto Rows.fnActsSpec).bare Rows.fnActsUptoRow = true := by
  unfold joinedFacts
  exact (both (both (both (both (both (both (both (both (both (both (both (both (both (both (both (both (both (both (both (both (both (both (both (both (both (both (both (both (both (both (both PT PU) P7) Rj) Rm) Rn) Ro) Rp) Rq) Rr) PV) PW) PX) PY) PZ) P0) P3) P4) P5) P6) P8) P9) Ra) Rb) Rc) Re) Rf) Rg) Rh) Ri) Rk) Rl)
end Go.Proofs.YtppjgjdlnikigaaGreatDoor.FnActs
