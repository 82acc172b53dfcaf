/- FnCertified holds: for every input of bulk at most 1048576 the law returns true (the law of Certified), and each argument reads behind the call as it read before. Conditions: those of the row: listed package-level variables hold what the row lists (the card ties them to the program's text). -/
import Derived.Test.YthcbhmiocejpjaaGreatDoorCards
import Derived.Test.YthcbhmiocejpjaaGreatDoorTie
import Derived.Test.YthcbhmiocejpjaaGreatDoorCeEqs
import Derived.Test.YthcbhmiocejpjaaGreatDoorCePureC
import Derived.WalkKit
import Derived.ProofKit
import Derived.OpenShut
import Derived.Deep.DeepHandedRow
import Derived.Lib.LaidTab
import Derived.LaidSub
import Derived.MakeChecks
import Derived.Test.YthcbhmiocejpjaaGreatDoorCeFactA
import Derived.Test.YthcbhmiocejpjaaGreatDoorCeFactB
namespace Go.Proofs.YthcbhmiocejpjaaGreatDoor.FnCertified
open Go Go.ChangeShapes Go.WideShapes Go.ChangeAt Go.RowKit Ev
set_option linter.unusedVariables false

theorem ld {H : Type} {d : DataW H} : ∀ {l : List (DataW H)}, d ∈ l → Rows.uptoBulk d ≤ Rows.uptoBulkAll l
  | x :: r, h => by
    simp only [Rows.uptoBulkAll]
    rcases List.mem_cons.1 h with rfl | h
    · omega
    · have := ld h; omega

theorem abb {H : Type} (d : DataW H) : 1 ≤ Rows.uptoBulk d := by
  cases d with
  | lit l => cases l <;> simp [Rows.uptoBulk]
  | nil => simp [Rows.uptoBulk]
  | ptr d => simp [Rows.uptoBulk]
  | slice elems spare => simp [Rows.uptoBulk]
  | agg parts => simp [Rows.uptoBulk]
  | iface t d => simp [Rows.uptoBulk]
  | map entries => simp [Rows.uptoBulk]
  | held h => simp [Rows.uptoBulk]

theorem Bw {H : Type} : ∀ (l : List (DataW H)), l.length ≤ Rows.uptoBulkAll l
  | [] => by simp
  | x :: r => by
    simp only [Rows.uptoBulkAll, List.length_cons]
    have := abb x
    have := Bw r
    omega

theorem meas {H : Type} : Meas (H := H) Rows.uptoBulk where
  str b := by simp [Rows.uptoBulk]
  sl el sp := by simp only [Rows.uptoBulk]; have := Bw el; omega
  slp el sp d h := by simp only [Rows.uptoBulk]; have := ld h; omega
  agg ps d h := by simp only [Rows.uptoBulk]; have := ld h; omega

/-- What the row lists and the shape of memory give. -/
theorem Af {W : World} (hL : laidMetH Tryz.prog Rows.fnCertifiedUptoRow.laid W) (hS : W.ShapedOpen Tryz.prog) : G448.GLB.G W := by
  have h1 : laidMet Tryz.prog Rows.fnCertifiedUptoRow.laid W := by rw [← MakeChecks.laidMetH_plain _ _ _ (by kernel_rfl)]; exact hL
  have h2 := laidMet.filter (fun x => x.1 == "internal/strconv.uint64pow10") h1
  have e : (Rows.fnCertifiedUptoRow.laid.filter fun x => x.1 == "internal/strconv.uint64pow10") = [("internal/strconv.uint64pow10", Lib.tabData .u64 Lib.pow10Tab)] := by kernel_rfl
  rw [e] at h2
  exact ⟨(cell_of_shapedOpen_int (zero := #[.int .i64 0]) (t := 3) hS (of_decide_eq_true (by kernel_rfl)) (by kernel_rfl) rfl (by kernel_rfl) (by kernel_rfl) Tryz.underlying3), (Lib.tabIs_of_head (rest := []) G448.gPow_ok (t := 296) (e := 277) (n := 20) (by kernel_rfl) Tryz.underlying296 Tryz.underlying277 (by kernel_rfl) (by kernel_rfl) h2)⟩

set_option maxRecDepth 100000 in
theorem VH (H : Type) (enc : TypeId × Value → H) (W : World) (base : Nat) (args : Array Value) (ds gs : List (DataW H)) (before : List MemPlace)
    (hval : ∀ (j : Nat) t v, Tryz.f3.params[j]? = some t → args[j]? = some v → Value.okWide Tryz.prog W .any base t v)
    (hW : DataW.Whole enc Tryz.prog Tryz.f3.params.toList Rows.fnCertifiedSpec.vars false W args.toList ds gs before) (hk : Rows.uptoSmall H (ds ++ gs) = true) (hL : laidMetH Tryz.prog Rows.fnCertifiedUptoRow.laid W) (hS : W.ShapedOpen Tryz.prog) :
    Calls Tryz.prog 3 args W fun e W' => ∃ v, e = .returned v ∧ Rows.fnCertifiedSpec.post enc Tryz.prog Tryz.f3 false true false false W args v W' := by
  have hW' := hW
  obtain ⟨p, q, hA0, hV, rfl, hfz, hnd⟩ := hW
  have hA : DataW.TrodAll enc Tryz.prog W 0 (fun _ => true) true Tryz.f3.params.toList args.toList ds p := hA0
  rw [Tryz.params3] at hA hval
  obtain ⟨v0, vs0, d0, ds0, p0, q0, hargs0, rfl, rfl, h0, r0⟩ := trodAll_cons hA
  obtain ⟨rfl, rfl, rfl⟩ := trodAll_nil r0
  obtain rfl : args = #[v0] := by cases args; simp_all
  obtain ⟨rfl, rfl⟩ := trodVars_none hV
  have hb : Rows.uptoBulkAll ([d0] ++ []) ≤ 1048576 := of_decide_eq_true hk
  simp only [List.append_nil] at hb hW'
  have hle : ∀ d ∈ [d0], Rows.uptoBulk d ≤ 1048576 := fun d hd => Nat.le_trans (ld hd) hb
  obtain ⟨x0, c0, b0, e0, k0⟩ := UN (tys := G448.TYS) G448.tysOK meas (d := _) (by rfl) (by rfl) (by rfl) (hval 0 _ v0 rfl rfl) h0 (hle d0 (by simp)) (by kernel_rfl)
  have hlaw : G448.laws_FnCertified (x0, ()) = some (true, ()) :=
    G448.law_Certified x0 k0.bnd.1
  have hargs : ArgsOk W G448.pf3.params (x0, ()) [v0] (b0 ++ []) [] [] [] [] :=
    ⟨_, _, _, _, by rw [e0], k0, rfl, rfl, rfl, rfl, rfl, rfl, rfl⟩
  have hcall := G448.s3.run W (x0, ()) [v0] _ [] [] [] [] (true, ()) hargs (by simp) (by simp) (Af hL hS) (G448.glb_apart (Af hL hS)) hlaw
  refine (U3 Tryz.func3 (by kernel_rfl) (by kernel_rfl) hcall).mono fun e W' ⟨v, he, hkeep, pt, hout⟩ => ?_
  subst he
  have hv : v = .bool true := abC hout.2
  subst hv
  have hbel : Below W.heap.size W W' := ⟨hkeep.os, hkeep.tape, hkeep.output, hkeep.size, fun k hk => hkeep.block k hk (by simp)⟩
  have hlt : ∀ x ∈ p0 ++ [], x.block < W.heap.size := fun x hx => hA.lt x (by simpa using hx)
  refine ⟨_, rfl, abn rfl hW' ?_ ?_ rfl hbel⟩
  · intro b sp
    exact trodAll_cons_mk (shut_bool Tryz.underlying4 _) trodAll_mk0
  · have hh := trodAll_cons_mk (Below.trod aar (by kernel_rfl) (of_decide_eq_true (by kernel_rfl)) h0 hbel (fun x hx => hlt x (by simp [hx])))
      trodAll_mk0
    simp only [List.append_nil] at hh ⊢
    exact hh

set_option maxRecDepth 100000 in
theorem lifted (os : Os) (started : os.Started) (H : Type) (enc : TypeId × Value → H) (F : Stop.Interp) :
    ReturnsInHanded {} Tryz.checked os 3 .any ((Rows.OpenSpec.upto Rows.fnCertifiedSpec).preRow enc Tryz.prog Tryz.f3 Rows.fnCertifiedUptoRow.domain false Rows.fnCertifiedUptoRow.laid) (((Rows.OpenSpec.upto Rows.fnCertifiedSpec).at F).post enc Tryz.prog Tryz.f3 false true false false) := by
  obtain ⟨places, hx⟩ := reads os enc
  refine returnsInHanded_of_row (C := Tryz.checked) (s := Rows.OpenSpec.upto Rows.fnCertifiedSpec) own started (by kernel_rfl) Tryz.func3
    (witness_row_at (enc := enc) (C := Tryz.checked) false (rA os) #[.slice none 0 0] rfl (by kernel_rfl) (by kernel_rfl) (by kernel_rfl)
      (OpenSpec.preRow_of_cond 8 hx (by kernel_rfl) (fun k hk => by cases hk; kernel_rfl) (by kernel_rfl) (aas os))) ?_
  intro W base args ds gs before hval hW _ hcond _ hL hS _
  exact VH H enc W base args ds gs before hval hW (hcond _ rfl) hL hS

theorem aep : Rows.FnCertifiedUptoSaid :=
  OpenClaim.holds_of_cond 3 Tryz.f3 rfl rfl rfl rfl rfl rfl rfl ⟨rfl, rfl, rfl, rfl, rfl⟩ rfl rfl rfl rfl rfl aaV Tryz.func3 VF
    X2 agV
    (fun os started H enc _ F => by rw [OpenClaim.pre_eq_preRow]; exact lifted os started H enc F)

theorem wfT : Rows.fnCertifiedUptoRow.wfByText (Rows.OpenSpec.upto Rows.fnCertifiedSpec) = true := by kernel_rfl
theorem WK : false = Rows.fnCertifiedUptoRow.goesBy Tryz.pinned.checked.prog := by kernel_rfl
/-- The card. -/
theorem proved : Rows.FnCertifiedUptoCardSaid :=
  Claim7.holds_tied_plain_at .later [] _ _ _ _ aep (fun _ h => by cases h) wfT (fun _ h => by cases h) fnCertifiedUpto_row_tie rfl ⟨rfl, rfl⟩ (by kernel_rfl) rfl plain WK
end Go.Proofs.YthcbhmiocejpjaaGreatDoor.FnCertified
#print axioms Go.Proofs.YthcbhmiocejpjaaGreatDoor.FnCertified.proved
