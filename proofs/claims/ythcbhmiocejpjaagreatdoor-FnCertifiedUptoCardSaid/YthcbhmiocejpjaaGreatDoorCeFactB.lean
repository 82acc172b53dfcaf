/- Facts of the row of FnCertified, reckoned by the kernel, part 2. Conditions: none. -/
import Derived.Test.YthcbhmiocejpjaaGreatDoorCards
import Derived.Test.YthcbhmiocejpjaaGreatDoorTie
import Derived.WalkKit
import Derived.ProofKit
import Derived.OpenShut
import Derived.Deep.DeepHandedRow
import Derived.Lib.LaidTab
import Derived.LaidSub
import Derived.MakeChecks
namespace Go.Proofs.YthcbhmiocejpjaaGreatDoor.FnCertified
open Go Go.ChangeShapes Go.WideShapes Go.ChangeAt Go.RowKit
set_option linter.unusedVariables false

theorem own : ownKnob Tryz.prog.godebug = none := by kernel_rfl
theorem aar : laidOutB Tryz.prog = true := by kernel_rfl

/-- The cells of a listed datum. -/
def flat : Nat → DataW Unit → List Value
  | 0, _ => []
  | _ + 1, .lit (.int k z) => [.int k z]
  | n + 1, .agg l => l.flatMap (flat n)
  | _ + 1, _ => []

/-- A world for the witness: the settled one, the listed variables holding what the row lists. -/
noncomputable def rA (os : Os) : World :=
  Rows.fnCertifiedUptoRow.laid.foldl (fun w x => match Tryz.prog.globalNamed x.1 with
    | some g => { w with heap := w.heap.modify g fun
      | .cells _ t frozen => .cells (flat 3 x.2).toArray t frozen
      | o => o }
    | none => w) (World.holding Tryz.prog os ⟨#[], #[], []⟩)
theorem aas (os : Os) : laidMet Tryz.prog Rows.fnCertifiedUptoRow.laid ((rA os).forCall (fun _ _ => 0) ⟨#[], #[.slice none 0 0], []⟩).memory :=
  laidMet_of_run' 8 (by kernel_rfl) (by kernel_rfl)
theorem reads (os : Os) {H : Type} (enc : TypeId × Value → H) : ∃ places, DataW.whole enc Tryz.prog ((rA os).forCall (fun _ _ => 0) ⟨#[], #[.slice none 0 0], []⟩).memory Tryz.f3.params.toList Rows.fnCertifiedSpec.vars false [.slice none 0 0] 8 = some ([.nil], [], places) :=
  ⟨[], by kernel_rfl⟩

theorem aaV : Tryz.pinned.checked.prog.funcNamed Rows.fnCertifiedUptoRow.func = some 3 := by kernel_rfl
theorem X2 : Tryz.f3.isInstance Tryz.pinned.checked.prog Rows.fnCertifiedUptoRow.origin Rows.fnCertifiedUptoRow.targs := of_decide_eq_true (by kernel_rfl)
theorem agV : Tryz.f3.isWrapper Tryz.pinned.checked.prog Rows.fnCertifiedUptoRow.wrapper Rows.fnCertifiedUptoRow.mainSum := by
  unfold Func.isWrapper; first | (rw [if_pos (by decide +kernel)]; kernel_rfl) | (rw [if_neg (by decide +kernel)]; exact ⟨rfl, rfl⟩)

/-- No parameter wants a stand-in; the program's own looks are off: what the card asks. -/
theorem plain (f : FuncId) (fn : Func) (hf : Tryz.pinned.checked.prog.funcNamed "loop.example/g00448/laws.FnCertified" = some f) (hfn : Tryz.pinned.checked.prog.funcs[f]? = some fn) :
    false = Tryz.pinned.checked.prog.looks [] ∧ ∀ (j : Nat) t, fn.params[j]? = some t → Tryz.pinned.checked.prog.wantsStandIn t = false := by
  obtain rfl : f = 3 := Option.some.inj ((show Tryz.prog.funcNamed "loop.example/g00448/laws.FnCertified" = some 3 by kernel_rfl).symm.trans hf) |>.symm
  obtain rfl : fn = Tryz.f3 := (Option.some.inj (Tryz.func3.symm.trans hfn)).symm
  refine ⟨by kernel_rfl, fun j t ht => ?_⟩
  have hall : (Tryz.f3.params.toList.all fun t => Tryz.prog.wantsStandIn t == false) = true := by kernel_rfl
  have hm : t ∈ Tryz.f3.params.toList := by simpa using Array.mem_of_getElem? ht
  exact beq_iff_eq.1 (List.all_eq_true.1 hall t hm)

end Go.Proofs.YthcbhmiocejpjaaGreatDoor.FnCertified
