/- FnActs holds: for every input of bulk at most 1048576 the law returns true (the law of Acts), and each argument reads behind the call as it read before. Conditions: those of the row: listed package-level variables hold what the row lists (the card ties them to the program's text). -/
import Derived.Test.YtppjgjdlnikigaaGreatDoorCards
import Derived.Test.YtppjgjdlnikigaaGreatDoorTie
import Derived.Test.YtppjgjdlnikigaaGreatDoorAcEqsZ
import Derived.Test.YtppjgjdlnikigaaGreatDoorAcPureC
import Derived.WalkKit
import Derived.ProofKit
import Derived.OpenShut
import Derived.Deep.DeepHandedRow
import Derived.Lib.LaidTab
import Derived.LaidSub
import Derived.MakeChecks
import Derived.Test.YtppjgjdlnikigaaGreatDoorAcFactA
import Derived.Test.YtppjgjdlnikigaaGreatDoorAcFactB
namespace Go.Proofs.YtppjgjdlnikigaaGreatDoor.FnActs
open Go Go.ChangeShapes Go.WideShapes Go.ChangeAt Go.RowKit Ev
set_option linter.unusedVariables false

theorem eU {H : Type} {d : DataW H} : ∀ {l : List (DataW H)}, d ∈ l → Rows.uptoBulk d ≤ Rows.uptoBulkAll l
  | x :: r, h => by
    simp only [Rows.uptoBulkAll]
    rcases List.mem_cons.1 h with rfl | h
    · omega
    · have := eU h; omega

theorem UY {H : Type} (d : DataW H) : 1 ≤ Rows.uptoBulk d := by
  cases d with
  | lit l => cases l <;> simp [Rows.uptoBulk]
  | nil => simp [Rows.uptoBulk]
  | ptr d => simp [Rows.uptoBulk]
  | slice elems spare => simp [Rows.uptoBulk]
  | agg parts => simp [Rows.uptoBulk]
  | iface t d => simp [Rows.uptoBulk]
  | map entries => simp [Rows.uptoBulk]
  | held h => simp [Rows.uptoBulk]

theorem wd {H : Type} : ∀ (l : List (DataW H)), l.length ≤ Rows.uptoBulkAll l
  | [] => by simp
  | x :: r => by
    simp only [Rows.uptoBulkAll, List.length_cons]
    have := UY x
    have := wd r
    omega

theorem meas {H : Type} : Meas (H := H) Rows.uptoBulk where
  str b := by simp [Rows.uptoBulk]
  sl el sp := by simp only [Rows.uptoBulk]; have := wd el; omega
  slp el sp d h := by simp only [Rows.uptoBulk]; have := eU h; omega
  agg ps d h := by simp only [Rows.uptoBulk]; have := eU h; omega

/-- What the row lists and the shape of memory give. -/
theorem uQ {W : World} (hL : laidMetH Tryz.prog Rows.fnActsUptoRow.laid W) (hS : W.ShapedOpen Tryz.prog) : G448.GLB.G W := by
  have h1 : laidMet Tryz.prog Rows.fnActsUptoRow.laid W := by rw [← MakeChecks.laidMetH_plain _ _ _ (by kernel_rfl)]; exact hL
  have h2 := laidMet.filter (fun x => x.1 == "internal/strconv.uint64pow10") h1
  have e : (Rows.fnActsUptoRow.laid.filter fun x => x.1 == "internal/strconv.uint64pow10") = [("internal/strconv.uint64pow10", Lib.tabData .u64 Lib.pow10Tab)] := by kernel_rfl
  rw [e] at h2
  exact ⟨(cell_of_shapedOpen_int (zero := #[.int .i64 0]) (t := 3) hS (of_decide_eq_true (by kernel_rfl)) (by kernel_rfl) rfl (by kernel_rfl) (by kernel_rfl) Tryz.underlying3), (Lib.tabIs_of_head (rest := []) G448.gPow_ok (t := 303) (e := 290) (n := 20) (by kernel_rfl) Tryz.underlying303 Tryz.underlying290 (by kernel_rfl) (by kernel_rfl) h2)⟩

set_option maxRecDepth 100000 in
theorem Rw (H : Type) (enc : TypeId × Value → H) (W : World) (base : Nat) (args : Array Value) (ds gs : List (DataW H)) (before : List MemPlace)
    (hval : ∀ (j : Nat) t v, Tryz.f4.params[j]? = some t → args[j]? = some v → Value.okWide Tryz.prog W .any base t v)
    (hW : DataW.Whole enc Tryz.prog Tryz.f4.params.toList Rows.fnActsSpec.vars false W args.toList ds gs before) (hk : Rows.uptoSmall H (ds ++ gs) = true) (hL : laidMetH Tryz.prog Rows.fnActsUptoRow.laid W) (hS : W.ShapedOpen Tryz.prog) :
    Calls Tryz.prog 4 args W fun e W' => ∃ v, e = .returned v ∧ Rows.fnActsSpec.post enc Tryz.prog Tryz.f4 false true false false W args v W' := by
  have hW' := hW
  obtain ⟨p, q, hA0, hV, rfl, hfz, hnd⟩ := hW
  have hA : DataW.TrodAll enc Tryz.prog W 0 (fun _ => true) true Tryz.f4.params.toList args.toList ds p := hA0
  rw [Tryz.params4] at hA hval
  obtain ⟨v0, vs0, d0, ds0, p0, q0, hargs0, rfl, rfl, h0, r0⟩ := trodAll_cons hA
  obtain ⟨rfl, rfl, rfl⟩ := trodAll_nil r0
  obtain rfl : args = #[v0] := by cases args; simp_all
  obtain ⟨rfl, rfl⟩ := trodVars_none hV
  have hb : Rows.uptoBulkAll ([d0] ++ []) ≤ 1048576 := of_decide_eq_true hk
  simp only [List.append_nil] at hb hW'
  have hle : ∀ d ∈ [d0], Rows.uptoBulk d ≤ 1048576 := fun d hd => Nat.le_trans (eU hd) hb
  obtain ⟨x0, c0, b0, e0, k0⟩ := Px (tys := G448.TYS) G448.tysOK meas (d := _) (by rfl) (by rfl) (by rfl) (hval 0 _ v0 rfl rfl) h0 (hle d0 (by simp)) (by kernel_rfl)
  have hlaw : G448.laws_FnActs (x0, ()) = some (true, ()) :=
    G448.law_Acts x0 k0.bnd.1
  have hargs : ArgsOk W G448.pf4.params (x0, ()) [v0] (b0 ++ []) [] [] [] [] :=
    ⟨_, _, _, _, by rw [e0], k0, rfl, rfl, rfl, rfl, rfl, rfl, rfl⟩
  have hcall := G448.s4.run W (x0, ()) [v0] _ [] [] [] [] (true, ()) hargs (by simp) (by simp) (uQ hL hS) (G448.glb_apart (uQ hL hS)) hlaw
  refine (PO Tryz.func4 (by kernel_rfl) (by kernel_rfl) hcall).mono fun e W' ⟨v, he, hkeep, pt, hout⟩ => ?_
  subst he
  have hv : v = .bool true := Vt hout.2
  subst hv
  have hbel : Below W.heap.size W W' := ⟨hkeep.os, hkeep.tape, hkeep.output, hkeep.size, fun k hk => hkeep.block k hk (by simp)⟩
  have hlt : ∀ x ∈ p0 ++ [], x.block < W.heap.size := fun x hx => hA.lt x (by simpa using hx)
  refine ⟨_, rfl, Vd rfl hW' ?_ ?_ rfl hbel⟩
  · intro b sp
    exact trodAll_cons_mk (shut_bool Tryz.underlying4 _) trodAll_mk0
  · have hh := trodAll_cons_mk (Below.trod Ua (by kernel_rfl) (of_decide_eq_true (by kernel_rfl)) h0 hbel (fun x hx => hlt x (by simp [hx])))
      trodAll_mk0
    simp only [List.append_nil] at hh ⊢
    exact hh

set_option maxRecDepth 100000 in
theorem lifted (os : Os) (started : os.Started) (H : Type) (enc : TypeId × Value → H) (F : Stop.Interp) :
    ReturnsInHanded {} Tryz.checked os 4 .any ((Rows.OpenSpec.upto Rows.fnActsSpec).preRow enc Tryz.prog Tryz.f4 Rows.fnActsUptoRow.domain false Rows.fnActsUptoRow.laid) (((Rows.OpenSpec.upto Rows.fnActsSpec).at F).post enc Tryz.prog Tryz.f4 false true false false) := by
  obtain ⟨places, hx⟩ := reads os enc
  refine returnsInHanded_of_row (C := Tryz.checked) (s := Rows.OpenSpec.upto Rows.fnActsSpec) own started (by kernel_rfl) Tryz.func4
    (witness_row_at (enc := enc) (C := Tryz.checked) false (nz os) #[.slice none 0 0] rfl (by kernel_rfl) (by kernel_rfl) (by kernel_rfl)
      (OpenSpec.preRow_of_cond 8 hx (by kernel_rfl) (fun k hk => by cases hk; kernel_rfl) (by kernel_rfl) (Ub os))) ?_
  intro W base args ds gs before hval hW _ hcond _ hL hS _
  exact Rw H enc W base args ds gs before hval hW (hcond _ rfl) hL hS

theorem X5 : Rows.FnActsUptoSaid :=
  OpenClaim.holds_of_cond 4 Tryz.f4 rfl rfl rfl rfl rfl rfl rfl ⟨rfl, rfl, rfl, rfl, rfl⟩ rfl rfl rfl rfl rfl UF Tryz.func4 Rs
    Ta acq
    (fun os started H enc _ F => by rw [OpenClaim.pre_eq_preRow]; exact lifted os started H enc F)

theorem wfT : Rows.fnActsUptoRow.wfByText (Rows.OpenSpec.upto Rows.fnActsSpec) = true := by kernel_rfl
theorem Sj : false = Rows.fnActsUptoRow.goesBy Tryz.pinned.checked.prog := by kernel_rfl
/-- The card. -/
theorem proved : Rows.FnActsUptoCardSaid :=
  Claim7.holds_tied_plain_at .later [] _ _ _ _ X5 (fun _ h => by cases h) wfT (fun _ h => by cases h) fnActsUpto_row_tie rfl ⟨rfl, rfl⟩ (by kernel_rfl) rfl plain Sj
end Go.Proofs.YtppjgjdlnikigaaGreatDoor.FnActs
#print axioms Go.Proofs.YtppjgjdlnikigaaGreatDoor.FnActs.proved
