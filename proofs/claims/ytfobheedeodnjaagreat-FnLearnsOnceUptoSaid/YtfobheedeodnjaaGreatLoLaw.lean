/- FnLearnsOnce holds: for every input of bulk at most 1048576 the law returns true (what was learnt of a drawn world is not learnt again), and each argument reads behind the call as it read before. No condition beyond the row's own. -/
import Derived.Test.YtfobheedeodnjaaGreatRows
import Derived.Test.YtfobheedeodnjaaGreatLoEqs
import Derived.Test.YtfobheedeodnjaaGreatLoPureB
import Derived.WalkKit
namespace Go.Proofs.YtfobheedeodnjaaGreat.FnLearnsOnce
open Go Go.ChangeShapes Go.WideShapes Go.ChangeAt Go.RowKit Ev
set_option linter.unusedVariables false

theorem part_le {H : Type} {d : DataW H} : ∀ {l : List (DataW H)}, d ∈ l → Rows.uptoBulk d ≤ Rows.uptoBulkAll l
  | x :: r, h => by
    simp only [Rows.uptoBulkAll]
    rcases List.mem_cons.1 h with rfl | h
    · omega
    · have := part_le h; omega

theorem one_le {H : Type} (d : DataW H) : 1 ≤ Rows.uptoBulk d := by
  cases d with
  | lit l => cases l <;> simp [Rows.uptoBulk]
  | nil => simp [Rows.uptoBulk]
  | ptr d => simp [Rows.uptoBulk]
  | slice elems spare => simp [Rows.uptoBulk]
  | agg parts => simp [Rows.uptoBulk]
  | iface t d => simp [Rows.uptoBulk]
  | map entries => simp [Rows.uptoBulk]
  | held h => simp [Rows.uptoBulk]

theorem length_le {H : Type} : ∀ (l : List (DataW H)), l.length ≤ Rows.uptoBulkAll l
  | [] => by simp
  | x :: r => by
    simp only [Rows.uptoBulkAll, List.length_cons]
    have := one_le x
    have := length_le r
    omega

theorem meas {H : Type} : Meas (H := H) Rows.uptoBulk where
  str b := by simp [Rows.uptoBulk]
  sl el sp := by simp only [Rows.uptoBulk]; have := length_le el; omega
  slp el sp d h := by simp only [Rows.uptoBulk]; have := part_le h; omega
  agg ps d h := by simp only [Rows.uptoBulk]; have := part_le h; omega

theorem own : ownKnob Tryz.prog.godebug = none := by kernel_rfl
theorem laidOut : laidOutB Tryz.prog = true := by kernel_rfl

set_option maxRecDepth 100000 in
theorem contract (H : Type) (enc : TypeId × Value → H) (W : World) (base : Nat) (args : Array Value) (ds gs : List (DataW H)) (before : List MemPlace)
    (hval : ∀ (j : Nat) t v, Tryz.f3.params[j]? = some t → args[j]? = some v → Value.okWide Tryz.prog W .any base t v)
    (hW : DataW.Whole enc Tryz.prog Tryz.f3.params.toList Rows.fnLearnsOnceSpec.vars false W args.toList ds gs before) (hk : Rows.uptoSmall H (ds ++ gs) = true) :
    Calls Tryz.prog 3 args W fun e W' => ∃ v, e = .returned v ∧ Rows.fnLearnsOnceSpec.post enc Tryz.prog Tryz.f3 false true false false W args v W' := by
  have hW' := hW
  obtain ⟨p, q, hA0, hV, rfl, hfz, hnd⟩ := hW
  have hA : DataW.TrodAll enc Tryz.prog W 0 (fun _ => true) true Tryz.f3.params.toList args.toList ds p := hA0
  rw [Tryz.params3] at hA hval
  obtain ⟨v0, vs0, d0, ds0, p0, q0, hargs0, rfl, rfl, h0, r0⟩ := trodAll_cons hA
  obtain ⟨rfl, rfl, rfl⟩ := trodAll_nil r0
  obtain rfl : args = #[v0] := by cases args; simp_all
  obtain ⟨rfl, rfl⟩ := trodVars_none hV
  have hb : Rows.uptoBulkAll ([d0] ++ []) ≤ 1048576 := of_decide_eq_true hk
  simp only [List.append_nil] at hb hW'
  have hle : ∀ d ∈ [d0], Rows.uptoBulk d ≤ 1048576 := fun d hd => Nat.le_trans (part_le hd) hb
  obtain ⟨x0, c0, b0, e0, k0⟩ := arg_ok (tys := G448.TYS) G448.tysOK meas (d := _) (by rfl) (by rfl) (hval 0 _ v0 rfl rfl) h0 (hle d0 (by simp)) (by kernel_rfl)
  have hlaw : G448.laws_FnLearnsOnce (x0, ()) = some (true, ()) :=
    G448.law_LearnsOnce x0 k0.bnd.1
  have hargs : ArgsOk W G448.pf3.params (x0, ()) [v0] (b0 ++ []) [] [] [] [] :=
    ⟨_, _, _, _, by rw [e0], k0, rfl, rfl, rfl, rfl, rfl, rfl, rfl⟩
  have hcall := G448.s3.run W (x0, ()) [v0] _ [] [] [] [] (true, ()) hargs (by simp) (by simp) trivial (by intro b hb; simp [Glob.none] at hb) hlaw
  refine (calls_of_callsTo Tryz.func3 (by kernel_rfl) (by kernel_rfl) hcall).mono fun e W' ⟨v, he, hkeep, pt, hout⟩ => ?_
  subst he
  have hv : v = .bool true := ret_bool hout.2
  subst hv
  have hbel : Below W.heap.size W W' := ⟨hkeep.os, hkeep.tape, hkeep.output, hkeep.size, fun k hk => hkeep.block k hk (by simp)⟩
  have hlt : ∀ x ∈ p0 ++ [], x.block < W.heap.size := fun x hx => hA.lt x (by simpa using hx)
  refine ⟨_, rfl, post_law rfl hW' ?_ ?_ rfl hbel⟩
  · intro b sp
    exact trodAll_cons_mk (shut_bool Tryz.underlying4 _) trodAll_mk0
  · have hh := trodAll_cons_mk (Below.trod laidOut (by kernel_rfl) (of_decide_eq_true (by kernel_rfl)) h0 hbel (fun x hx => hlt x (by simp [hx])))
      trodAll_mk0
    simp only [List.append_nil] at hh ⊢
    exact hh

set_option maxRecDepth 100000 in
theorem lifted (os : Os) (started : os.Started) (H : Type) (enc : TypeId × Value → H) (F : Stop.Interp) :
    ReturnsInHanded {} Tryz.checked os 3 .any ((Rows.OpenSpec.upto Rows.fnLearnsOnceSpec).pre6 enc Tryz.prog Tryz.f3 Rows.fnLearnsOnceUptoRow.domain false) (((Rows.OpenSpec.upto Rows.fnLearnsOnceSpec).at F).post enc Tryz.prog Tryz.f3 false true false false) := by
  refine returnsInHanded_of_cond (C := Tryz.checked) (s := Rows.OpenSpec.upto Rows.fnLearnsOnceSpec) (k := Rows.uptoSmall) rfl own started (by kernel_rfl) Tryz.func3
    (OpenSpec.witness (enc := enc) (C := Tryz.checked) (s := Rows.OpenSpec.upto Rows.fnLearnsOnceSpec) (k := Rows.uptoSmall) rfl false ⟨#[], #[.slice none 0 0], []⟩ 8 (by kernel_rfl) (by kernel_rfl) (by kernel_rfl)
      (x := ([.nil], [], [])) (by kernel_rfl) rfl (by kernel_rfl)) ?_
  intro W base args ds gs before hval hW _ hk _
  exact contract H enc W base args ds gs before hval hW hk

theorem proved : Rows.FnLearnsOnceUptoSaid :=
  OpenClaim.holds_of_cond 3 Tryz.f3 rfl rfl rfl rfl rfl rfl rfl ⟨rfl, rfl, rfl, rfl, rfl⟩ rfl rfl rfl rfl rfl (by kernel_rfl) Tryz.func3 (by kernel_rfl)
    (of_decide_eq_true (by kernel_rfl)) (by unfold Func.isWrapper; first | (rw [if_pos (by decide +kernel)]; kernel_rfl) | (rw [if_neg (by decide +kernel)]; exact ⟨rfl, rfl⟩))
    (fun os started H enc _ F => lifted os started H enc F)
end Go.Proofs.YtfobheedeodnjaaGreat.FnLearnsOnce
#print axioms Go.Proofs.YtfobheedeodnjaaGreat.FnLearnsOnce.proved
