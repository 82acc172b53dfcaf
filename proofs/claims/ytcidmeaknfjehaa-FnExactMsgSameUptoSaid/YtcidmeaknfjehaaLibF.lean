/- The evaluator of the own library, part 6: its words, its soundness. Conditions: none of its own. -/
import Derived.Test.YtcidmeaknfjehaaLibE
import Derived.Deep.Slices
import Derived.Carry
import Derived.ProofKit
import Derived.OpenShut
import Derived.JoinedCond
set_option linter.unusedSimpArgs false
set_option linter.unusedVariables false

/- What a statement's readings say in the evaluator's words. (Own library.) -/
namespace Ev
open Go
set_option linter.unusedVariables false

variable {H : Type} {enc : TypeId × Value → H} {P : Program} {w : World} {tys : List (Nat × TD)}

/-- The fields lie one behind the other. -/
def tile (tys : List (Nat × TD)) : List (Nat × Nat) → Ty → Nat → Bool
  | [(off, ft)], ty, o => Nat.beq off o && (match lk tys ft with | some d => decide (d.ty = ty) && d.arr.isNone | none => false)
  | (off, ft) :: g :: r, .pair a b, o => (Nat.beq off o && (match lk tys ft with | some d => decide (d.ty = a) && d.arr.isNone | none => false)) && tile tys (g :: r) b (o + a.size)
  | _, _, _ => false

def tilesOk (tys : List (Nat × TD)) : Bool := tys.all fun x => !x.2.ty.isPair || tile tys x.2.flds x.2.ty 0

/-- A measure of readings. -/
structure Meas (μ : DataW H → Nat) : Prop where
  str : ∀ b, b.length ≤ μ (.lit (.string b))
  sl : ∀ el sp, el.length ≤ μ (.slice el sp)
  slp : ∀ el sp, ∀ d ∈ el, μ d ≤ μ (.slice el sp)
  agg : ∀ ps, ∀ d ∈ ps, μ d ≤ μ (.agg ps)

theorem TOk.cells {t : Nat} {d : TD} (h : TOk P tys t d) (ha : d.arr = none) : P.cellsOf t = d.ty.size := by
  obtain ⟨i, hi, hc⟩ := h.info
  unfold infoOk at hc
  rw [ha] at hc
  simp only [Bool.and_eq_true] at hc
  simp only [Go.Program.cellsOf, hi, Option.map_some, Option.getD_some]
  exact (beq_iff _ _).1 hc.2.1

theorem tile_one {ft : Nat} {ty : Ty} (h : (match lk tys ft with | some d => decide (d.ty = ty) && d.arr.isNone | none => false) = true) : ∃ d, lk tys ft = some d ∧ d.ty = ty ∧ d.arr = none := by
  cases hl : lk tys ft with
  | none => rw [hl] at h; cases h
  | some d =>
    rw [hl] at h
    simp only [Bool.and_eq_true, decide_eq_true_eq, Option.isNone_iff_eq_none] at h
    exact ⟨d, rfl, h.1, h.2⟩

theorem rd_fields (hT : tysOk P tys = true) {n M N : Nat} {μ : DataW H → Nat}
    (ih : ∀ (t : Nat) (d : TD) (cs : List Value) (x : DataW H × List MemPlace), lk tys t = some d → d.arr = none → DataW.trod enc P w 0 (fun _ => true) true n t cs = some x → μ x.1 ≤ M → ∃ (v : den d.ty) (fp : List Nat), Rd w d.ty v cs fp) :
    ∀ (fl : List (Nat × Nat)) (fs : List Field) (ty : Ty) (o : Nat) (cs : List Value), tile tys fl ty o = true → fldsOk tys N fs fl = true →
      (∀ f ∈ fs, ∃ x, DataW.trod enc P w 0 (fun _ => true) true n f.type ((cs.drop f.offset).take (P.cellsOf f.type)) = some x ∧ μ x.1 ≤ M) →
      ∃ (v : den ty) (fp : List Nat), Rd w ty v ((cs.drop o).take ty.size) fp
  | [], fs, ty, o, cs, h, _, _ => by simp [tile] at h
  | [(off, ft)], fs, ty, o, cs, h, hf, hx => by
    simp only [tile, Bool.and_eq_true] at h
    obtain ⟨d, hd, hty, ha⟩ := tile_one h.2
    have ho := (beq_iff _ _).1 h.1
    match fs, hf with
    | f :: fs', hf =>
      simp only [fldsOk, Bool.and_eq_true] at hf
      have h1 := (beq_iff _ _).1 hf.1.1.1
      have h2 := (beq_iff _ _).1 hf.1.1.2
      obtain ⟨x, hx1, hx2⟩ := hx f (by simp)
      rw [h2] at hx1
      have hc := (tOk hT hd).cells ha
      obtain ⟨v, fp, hr⟩ := ih ft d _ x hd ha hx1 hx2
      subst hty
      rw [hc, h1, ho] at hr
      exact ⟨v, fp, hr⟩
  | (off, ft) :: g :: r, fs, .pair a b, o, cs, h, hf, hx => by
    simp only [tile, Bool.and_eq_true] at h
    obtain ⟨d, hd, hty, ha⟩ := tile_one h.1.2
    have ho := (beq_iff _ _).1 h.1.1
    match fs, hf with
    | f :: fs', hf =>
      simp only [fldsOk, Bool.and_eq_true] at hf
      have h1 := (beq_iff _ _).1 hf.1.1.1
      have h2 := (beq_iff _ _).1 hf.1.1.2
      obtain ⟨x, hx1, hx2⟩ := hx f (by simp)
      rw [h2] at hx1
      have hc := (tOk hT hd).cells ha
      obtain ⟨v, fp, hr⟩ := ih ft d _ x hd ha hx1 hx2
      subst hty
      rw [hc, h1, ho] at hr
      obtain ⟨v2, fp2, hr2⟩ := rd_fields hT ih (g :: r) fs' b (o + d.ty.size) cs h.2 hf.2 (fun f' hf' => hx f' (by simp [hf']))
      refine ⟨(v, v2), fp ++ fp2, _, _, _, _, ?_, rfl, hr, hr2⟩
      rw [Ty.size, List.take_add, List.drop_drop]
  | (off, ft) :: g :: r, fs, .i64, o, cs, h, _, _ => by simp [tile] at h
  | (off, ft) :: g :: r, fs, .u8, o, cs, h, _, _ => by simp [tile] at h
  | (off, ft) :: g :: r, fs, .bool, o, cs, h, _, _ => by simp [tile] at h
  | (off, ft) :: g :: r, fs, .str, o, cs, h, _, _ => by simp [tile] at h
  | (off, ft) :: g :: r, fs, .sl _ _, o, cs, h, _, _ => by simp [tile] at h

/-- The elements of a slice, from the last one on. -/
theorem rd_elems {e : Ty} {arr : Array Value} {o len : Nat} (h : ∀ i < len, ∃ cs, (arr.toList.drop (o + i * e.size)).take e.size = cs ∧ ∃ (v : den e) (fp : List Nat), Rd w e v cs fp) :
    ∀ k, k ≤ len → ∃ (xs : List (den e)) (fp : List Nat), xs.length = k ∧ RdL (Rd w e) xs (arr.toList.drop (o + (len - k) * e.size)) fp
  | 0, _ => ⟨[], [], rfl, rfl⟩
  | k + 1, hk => by
    obtain ⟨xs, fp, h1, h2⟩ := rd_elems h k (by omega)
    obtain ⟨cs, hcs, v, fv, hv⟩ := h (len - (k + 1)) (by omega)
    refine ⟨v :: xs, fv ++ fp, by simp [h1], cs, _, fv, fp, ?_, rfl, hv, h2⟩
    rw [← hcs]
    have e1 : o + (len - k) * e.size = (o + (len - (k + 1)) * e.size) + e.size := by
      have : len - k = (len - (k + 1)) + 1 := by omega
      rw [this, Nat.succ_mul]; omega
    rw [e1]
    generalize o + (len - (k + 1)) * e.size = m
    rw [← List.drop_drop, List.take_append_drop]

theorem cells_at {a : Addr} {n : Nat} {cs : List Value} (h : w.cells? 0 a n = some cs) (hn : 0 < n) : ∃ arr T fr, w.heap[a.block]? = some (.cells arr T fr) ∧ a.spot = none := by
  obtain ⟨_, h1, h2⟩ := World.cells?_some h
  have h3 := h2 0 hn
  have : a.add 0 = a := by simp [Addr.add]
  rw [this] at h3
  unfold World.cell? at h3
  split at h3
  · next arr T fr hb =>
    split at h3
    · rw [List.getElem?_eq_getElem (by omega)] at h3; cases h3
    · next hs => exact ⟨arr, T, fr, hb, by simpa using hs⟩
  · rw [List.getElem?_eq_getElem (by omega)] at h3; cases h3

theorem cells_eq {a : Addr} {n i sz : Nat} {cs : List Value} {arr : Array Value} {T : TypeId} {fr : Nat × Nat} (h : w.cells? 0 (a.add i) sz = some cs) (hb : w.heap[a.block]? = some (.cells arr T fr)) (hs : a.spot = none) (hsz : 0 < sz) :
    (arr.toList.drop (a.off + i)).take sz = cs := by
  obtain ⟨_, h1, h2⟩ := World.cells?_some h
  have key : ∀ j < sz, arr[a.off + i + j]? = cs[j]? := by
    intro j hj
    have h3 := h2 j hj
    rw [Deep.add_add] at h3
    unfold World.cell? at h3
    have e1 : (a.add (i + j)).block = a.block := by unfold Addr.add; split <;> rfl
    have e2 : (a.add (i + j)).spot = none := by unfold Addr.add; split <;> simp [hs]
    have e3 : (a.add (i + j)).off = a.off + (i + j) := by unfold Addr.add; split <;> simp_all
    rw [e1, hb] at h3
    simp only [e2, e3, Option.isSome_none, Bool.false_eq_true, if_false] at h3
    rw [← h3]
    congr 1
    omega
  apply List.ext_getElem?
  intro j
  by_cases hj : j < sz
  · rw [List.getElem?_take_of_lt hj, List.getElem?_drop, ← key j hj, Array.getElem?_toList]
  · rw [List.getElem?_eq_none (by simp; omega), List.getElem?_eq_none (by omega)]

/-- **A statement's reading is a reading of the evaluator's.** -/
theorem rd_of_trod (hT : tysOk P tys = true) (hTi : tilesOk tys = true) {μ : DataW H → Nat} (hμ : Meas μ) : ∀ (n : Nat) (t : Nat) (d : TD) (cs : List Value) (x : DataW H × List MemPlace), lk tys t = some d → d.arr = none →
    DataW.trod enc P w 0 (fun _ => true) true n t cs = some x → μ x.1 ≤ 1048576 → ∃ (v : den d.ty) (fp : List Nat), Rd w d.ty v cs fp := by
  intro n
  induction n with
  | zero => intro t d cs x _ _ h; simp [DataW.trod] at h
  | succ n ih =>
    intro t d cs x hd ha h hb
    have ht := tOk hT hd
    have hti := List.all_eq_true.1 hTi _ (lk_mem hd)
    obtain ⟨ty, bytes, flds, arr⟩ := d
    simp only at ha hti
    subst ha
    cases ty with
    | i64 =>
      obtain ⟨m, rfl, rfl, hw⟩ := DataW.trod_int (ht.i64 rfl rfl) h
      refine ⟨m, [], rfl, rfl, ?_⟩
      rw [bnd_i64]
      simpa [Lit.wf, IntKind.min, IntKind.max, IntKind.signed, IntKind.bits] using hw
    | u8 =>
      obtain ⟨m, rfl, rfl, hw⟩ := DataW.trod_int (ht.u8 rfl rfl) h
      have hm : 0 ≤ m ∧ m ≤ 255 := by simpa [Lit.wf, IntKind.min, IntKind.max, IntKind.signed, IntKind.bits] using hw
      refine ⟨UInt8.ofNat m.toNat, [], ?_, rfl⟩
      have : ((UInt8.ofNat m.toNat).toNat : Int) = m := by
        rw [UInt8.toNat_ofNat', Nat.mod_eq_of_lt (by simp; omega)]
        omega
      rw [this]
    | bool =>
      obtain ⟨m, rfl, rfl⟩ := DataW.trod_bool (ht.bool rfl) h
      exact ⟨m, [], rfl, rfl⟩
    | str =>
      obtain ⟨s, rfl, rfl, hw⟩ := DataW.trod_string (ht.str rfl rfl) h
      refine ⟨s.data.toList, [], rfl, rfl, ?_⟩
      have := hμ.str s.data.toList
      simp only [Bnd]
      simp only at hb
      omega
    | sl E e =>
      obtain ⟨hu, de, hde, hty, hda⟩ := ht.slice rfl rfl
      rcases DataW.trod_slice hu h with ⟨rfl, rfl⟩ | ⟨a, len, cap, elems, rest, n', hn', rfl, rfl, hb0, hl, hm, hlen, hel, _⟩
      · exact ⟨[], [], none, 0, 0, rfl, rfl, Nat.le_refl _, by simp, .inl ⟨rfl, rfl⟩⟩
      · cases hn'
        simp only at hb
        have hlb := hμ.sl (elems.map (·.1)) (rest.map (·.1))
        rw [List.length_map, hlen] at hlb
        rcases Nat.eq_zero_or_pos len with h0 | hpos
        · subst h0
          exact ⟨[], [], some a, 0, cap, rfl, rfl, hl, by simp, .inl ⟨rfl, rfl⟩⟩
        · have hsz : P.cellsOf E = de.ty.size := (tOk hT hde).cells hda
          have hsp := de.ty.size_pos
          have hget : ∀ i < len, ∃ cs', w.cells? 0 (a.add (i * P.cellsOf E)) (P.cellsOf E) = some cs' ∧ ∃ y, elems[i]? = some y ∧ DataW.trod enc P w 0 (fun _ => true) true n E cs' = some y := by
            intro i hi
            have := hel i hi
            rw [List.getElem?_eq_getElem (by omega)] at this
            obtain ⟨cs', h1, h2⟩ := Option.bind_eq_some_iff.1 this
            exact ⟨cs', h1, _, List.getElem?_eq_getElem (by omega), h2⟩
          obtain ⟨cs0, hc0, _⟩ := hget 0 hpos
          rw [Nat.zero_mul, show a.add 0 = a by simp [Addr.add]] at hc0
          obtain ⟨arr, T, fr, hblk, hspot⟩ := cells_at hc0 (by omega)
          have hE : ∀ i < len, ∃ cs, (arr.toList.drop (a.off + i * de.ty.size)).take de.ty.size = cs ∧ ∃ (v : den de.ty) (fp : List Nat), Rd w de.ty v cs fp := by
            intro i hi
            obtain ⟨cs', h1, y, hy, h2⟩ := hget i hi
            rw [hsz] at h1
            refine ⟨cs', cells_eq (n := 0) h1 hblk hspot hsp, ih E de cs' y hde hda h2 ?_⟩
            have := hμ.slp (elems.map (·.1)) (rest.map (·.1)) y.1 (List.mem_map_of_mem (List.mem_of_getElem? hy))
            omega
          obtain ⟨xs, fp, hx1, hx2⟩ := rd_elems hE len (Nat.le_refl _)
          rw [Nat.sub_self, Nat.zero_mul, Nat.add_zero] at hx2
          subst hty
          obtain ⟨ab, ao, asp⟩ := a
          simp only at hspot hblk hx2
          subst hspot
          exact ⟨xs, ab :: fp, some ⟨ab, ao, none⟩, len, cap, rfl, hx1.symm, hl, by omega, .inr ⟨ab, ao, arr, T, fr, fp, rfl, hblk, rfl, hx2⟩⟩
    | pair a b =>
      obtain ⟨fs, hu, hf⟩ := ht.struct rfl rfl
      obtain ⟨xs, n', hn', rfl, hlen, hxl, hget⟩ := DataW.trod_struct hu h
      cases hn'
      have hsz : P.cellsOf t = (Ty.pair a b).size := ht.cells rfl
      simp only [Ty.isPair, Bool.not_true, Bool.false_or] at hti
      have hF := rd_fields hT (n := n) (M := 1048576) (N := (Ty.pair a b).size) (μ := μ) ih flds fs.toList (Ty.pair a b) 0 cs hti hf (fun f hf' => by
        obtain ⟨i, hi⟩ := List.mem_iff_getElem?.1 hf'
        have hi' : fs[i]? = some f := by rw [← Array.getElem?_toList]; exact hi
        have hlt : i < xs.length := by
          rw [hxl, ← Array.length_toList]
          rcases Nat.lt_or_ge i fs.toList.length with h | h
          · exact h
          · rw [List.getElem?_eq_none h] at hi; cases hi
        have := hget i f hi'
        rw [List.getElem?_eq_getElem hlt] at this
        refine ⟨xs[i], this, ?_⟩
        have h2 := hμ.agg (xs.map (·.1)) xs[i].1 (List.mem_map_of_mem (List.getElem_mem hlt))
        simp only at hb
        omega)
      rw [List.drop_zero, List.take_of_length_le (by omega)] at hF
      exact hF

end Ev

/- From a contract to a statement. (Own library.) -/
namespace Ev
open Go Go.ChangeShapes Go.WideShapes Go.RowKit
set_option linter.unusedVariables false

variable {H : Type} {enc : TypeId × Value → H} {P : Program} {w w' : World} {tys : List (Nat × TD)}

theorem calls_of_callsTo {f : FuncId} {fn : Func} {args : Array Value} {R : Value → World → Prop} (hf : P.funcs[f]? = some fn) (hb : fn.body.isSome = true) (hn : (fn.name == "runtime.NumGoroutine") = false) (h : CallsTo P f args w R) :
    Calls P f args w fun e w' => ∃ v, e = .returned v ∧ R v w' := by
  obtain ⟨body, hbody⟩ := Option.isSome_iff_exists.1 hb
  have hcf : (callFunc f args).run P w = .ok (.enter f args) w := by
    have hn' : ¬ fn.name = "runtime.NumGoroutine" := by simpa using hn
    simp [callFunc, hf, hn', hbody]
  unfold CallsTo at h
  rw [hcf] at h
  refine Calls.mono h fun e w'' he => ?_
  cases e with
  | returned v => exact ⟨v, rfl, he⟩
  | panicked _ => exact he.elim
  | outgrown => exact he.elim

theorem ret_bool {n : Nat} {rr xo pt : List Nat} {v : Value} {b : Bool} (h : RetsOk w' n .uniq rr xo pt [.bool] v (b, ())) : v = .bool b := by
  obtain ⟨css, xs, fs, h1, h2, _⟩ := h
  obtain ⟨cs, css', x1, x2, f1, f2, rfl, _, _, h3, h4⟩ := h1
  obtain ⟨rfl, _, _⟩ := h4
  have h5 : RdO w' .bool b cs x1 f1 := h3
  obtain ⟨⟨rfl, _⟩, _, _⟩ := h5
  rw [h2]
  rfl

/-- An argument. -/
theorem arg_ok (hT : tysOk P tys = true) (hTi : tilesOk tys = true) {μ : DataW H → Nat} (hμ : Meas μ) {r : Reach} {b0 : Nat} {t : Nat} {d : TD} {v : Value} {dd : DataW H} {ps : List MemPlace} (hd : lk tys t = some d) (ha : d.arr = none)
    (hval : Value.okWide P w r b0 t v) (h : DataW.Trod enc P w 0 (fun _ => true) true t v dd ps) (hb : μ dd ≤ 1048576) : ∃ (x : den d.ty) (cs : List Value) (fp : List Nat), v = valOf d.ty cs ∧ Rd w d.ty x cs fp := by
  obtain ⟨n, hn⟩ := h
  obtain ⟨x, fp, hx⟩ := rd_of_trod hT hTi hμ n t d v.cells.toList (dd, ps) hd ha hn hb
  refine ⟨x, v.cells.toList, fp, ?_, hx⟩
  have ht := tOk hT hd
  cases hty : d.ty with
  | i64 =>
    obtain ⟨m, rfl⟩ := okWide_int (ht.i64 hty ha) hval
    rfl
  | u8 =>
    obtain ⟨m, rfl⟩ := okWide_int (ht.u8 hty ha) hval
    rfl
  | bool =>
    obtain ⟨m, rfl⟩ := okWide_bool (ht.bool hty) hval
    rfl
  | str =>
    obtain ⟨m, rfl⟩ := okWide_string (ht.str hty ha) hval
    rfl
  | sl E e =>
    obtain ⟨hu, _⟩ := ht.slice hty ha
    obtain ⟨a, l, c, rfl⟩ := okWide_slice hu hval
    rfl
  | pair a b =>
    obtain ⟨fs, hu, _⟩ := ht.struct (by rw [hty]; rfl) ha
    obtain ⟨cs, rfl, _⟩ := okWide_struct hu hval
    simp [valOf, Ty.isPair, Value.cells]

theorem keptBut_below {may : MemPlace → Prop} (h : Below w.heap.size w w') : w.keptBut w' may := by
  refine ⟨h.os, h.output, fun i hi => ?_⟩
  rw [h.block i hi]
  split
  · next h1 h2 => rw [h1] at h2; cases h2; exact ⟨rfl, rfl, rfl, fun _ _ => rfl⟩
  · next h1 h2 => rw [h1] at h2; cases h2; exact .inr ⟨rfl, rfl⟩
  · rfl

/-- What a law's statement asks behind the call. -/
theorem post_law {f : Func} {s : ChangeSpec} {args : Array Value} {v : Value} {ds : List (DataW H)} {before : List MemPlace} (hsv : s.vars = [])
    (hW : DataW.Whole enc P f.params.toList s.vars false w args.toList ds [] before)
    (hres : ∀ (b : Nat) (sp : Nat → Bool), DataW.TrodAll enc P w' b sp false f.resultTypes.toList (v.resultList f.resultTypes.size) (s.fn H (ds ++ [])).results [])
    (hargs : DataW.TrodAll enc P w' 0 (fun b => decide (b < w.heap.size)) true f.params.toList args.toList (s.fn H (ds ++ [])).args before)
    (hv : (s.fn H (ds ++ [])).vars = []) (hk : Below w.heap.size w w') : s.post enc P f false true false false w args v w' := by
  refine ⟨ds, [], before, [], before, [], hW, hres _ _, hargs, ?_, keptBut_below hk, fun h => by cases h⟩
  rw [hsv, hv]
  rfl

end Ev
namespace Ev
open Go
variable {P : Program} {gl : Glob}

def AllS (P : Program) (gl : Glob) : List (Nat × PF) → Prop
  | [] => True
  | [x] => Sound P gl x.1 x.2 ∧ True
  | x :: y :: r => Sound P gl x.1 x.2 ∧ AllS P gl (y :: r)

def AllN (P : Program) (gl : Glob) : List (Nat × NF) → Prop
  | [] => True
  | [x] => SoundN P gl x.1 x.2 ∧ True
  | x :: y :: r => SoundN P gl x.1 x.2 ∧ AllN P gl (y :: r)

theorem AllS.mem : ∀ {l : List (Nat × PF)}, AllS P gl l → ∀ x ∈ l, Sound P gl x.1 x.2
  | [], _, _, hx => by simp at hx
  | [x], h, y, hy => by
    have : y = x := by simpa using hy
    subst this
    exact h.1
  | x :: z :: r, h, y, hy => by
    rcases List.mem_cons.1 hy with rfl | hy
    · exact h.1
    · exact AllS.mem h.2 y hy

theorem AllN.mem : ∀ {l : List (Nat × NF)}, AllN P gl l → ∀ x ∈ l, SoundN P gl x.1 x.2
  | [], _, _, hx => by simp at hx
  | [x], h, y, hy => by
    have : y = x := by simpa using hy
    subst this
    exact h.1
  | x :: z :: r, h, y, hy => by
    rcases List.mem_cons.1 hy with rfl | hy
    · exact h.1
    · exact AllN.mem h.2 y hy

theorem envOk_of {tys : List (Nat × TD)} {eqs : List Nat} {fns : List (Nat × PF)} {news : List (Nat × NF)} (hm : P.follows .mixedOrders = true) (hT : tysOk P tys = true) (hQ : eqs.all (eqOk P tys) = true)
    (h : AllS P gl fns) (h2 : AllN P gl news) : EnvOk P gl ⟨tys, fns, eqs, news⟩ :=
  ⟨hm, hT, hQ, fun f pf hl => h.mem _ (lk_mem hl), fun f nf hl => h2.mem _ (lk_mem hl)⟩

end Ev

/- Plain laws: loops. -/
namespace G448
open Ev
set_option linter.unusedVariables false

theorem iter_eq {S R : Type} {G : (S → Option R) → S → Option R} (f : S → Option R) (μ : S → Nat) (I : S → Prop)
    (h : ∀ (rec : S → Option R) (x : S), I x → (∀ y, I y → μ y < μ x → rec y = f y) → G rec x = f x) : ∀ (n : Nat) (x : S), I x → μ x < n → iter G n x = f x
  | 0, x, _, hn => by omega
  | n + 1, x, hx, hn => h (iter G n) x hx fun y hy hlt => iter_eq f μ I h n y hy (by omega)

/-- A loop over a list, with a state: what is left of the loop is handed to the body. -/
def foldK {α S R : Type} (body : α → S → (S → Option R) → Option R) (k : S → Option R) : List α → S → Option R
  | [], s => k s
  | x :: xs, s => body x s (foldK body k xs)

theorem foldK_nil {α S R : Type} (body : α → S → (S → Option R) → Option R) (k : S → Option R) (s : S) : foldK body k [] s = k s := rfl
theorem foldK_cons {α S R : Type} (body : α → S → (S → Option R) → Option R) (k : S → Option R) (x : α) (xs : List α) (s : S) : foldK body k (x :: xs) s = body x s (foldK body k xs) := rfl

theorem iter_for {X S R : Type} (len : Nat) {G : (X → Option R) → X → Option R} (mk : Int → S → X) (f : Nat → S → Option R) (hlen : len ≤ 1152921504606846976)
    (hend : ∀ rec s, G rec (mk (len : Int) s) = f len s)
    (hstep : ∀ rec (i : Nat) s, i < len → (∀ s', rec (mk ((i : Int) + 1) s') = f (i + 1) s') → G rec (mk (i : Int) s) = f i s) :
    ∀ n i s, i ≤ len → len - i < n → iter G n (mk (i : Int) s) = f i s
  | 0, i, s, _, hn => by omega
  | n + 1, i, s, hi, hn => by
    rcases Nat.lt_or_ge i len with h | h
    · exact hstep (iter G n) i s h fun s' => iter_for len mk f hlen hend hstep n (i + 1) s' (by omega) (by omega)
    · have : i = len := by omega
      subst this
      exact hend (iter G n) s

theorem fuel_gt {n : Nat} (h : n ≤ 1152921504606846976) : n < fuel := by unfold fuel; omega

/-- A Go loop 'for i := 0; i < len(l); i++' is a walk through the list. -/
theorem forK {α X S R : Type} (l : List α) {G : (X → Option R) → X → Option R} (body : α → S → (S → Option R) → Option R) (k : S → Option R) (mk : Int → S → X) (hl : l.length ≤ 1152921504606846976)
    (hend : ∀ rec s, G rec (mk (l.length : Int) s) = k s)
    (hstep : ∀ rec (i : Nat) s (x : α), l[i]? = some x → i < l.length → G rec (mk (i : Int) s) = body x s (fun s' => rec (mk ((i : Int) + 1) s')))
    (hcong : ∀ x s (r1 r2 : S → Option R), (∀ s', r1 s' = r2 s') → body x s r1 = body x s r2) (s : S) : iter G fuel (mk 0 s) = foldK body k l s := by
  have := iter_for l.length mk (fun i s => foldK body k (l.drop i) s) hl (fun rec s => by simpa [foldK] using hend rec s) (fun rec i s hi hrec => by
    rw [hstep rec i s l[i] (List.getElem?_eq_getElem hi) hi, List.drop_eq_getElem_cons hi]
    exact hcong _ _ _ _ hrec) fuel 0 s (Nat.zero_le _) (by simpa using fuel_gt hl)
  simpa using this

theorem wr_id' {n : Int} (h1 : -9223372036854775808 ≤ n) (h2 : n ≤ 9223372036854775807) : wr n = n := by unfold wr; omega

theorem wr_nat {i : Nat} (h : i < 4611686018427387904) : wr ((i : Int) + 1) = (i : Int) + 1 := wr_id' (by omega) (by omega)

theorem rd_get {e : Ty} {l : List (den e)} {i : Nat} {x : den e} (h : l[i]? = some x) : rd e l i = x := by
  simp [rd, List.getD_eq_getElem?_getD, h]

theorem ge_ok {α : Type} {l : List α} {i : Nat} (h : i < l.length) : (0 : Int) ≤ (i : Int) ∧ (i : Int) < (l.length : Int) := by omega

/-- The list that a loop 'out[i] = g(a[i])' fills. -/
theorem fill_step {α β : Type} {l : List α} {out : List β} {i : Nat} (y : β) (g : α → β) (h : i < l.length) (ho : out.length = l.length) (hy : y = g l[i]) :
    (out.set i y).take (i + 1) ++ (l.drop (i + 1)).map g = out.take i ++ (l.drop i).map g := by
  have hi : i < out.length := by omega
  rw [List.drop_eq_getElem_cons h, List.map_cons, ← hy, List.take_add_one, List.take_set_of_le (Nat.le_refl i), List.getElem?_set_self hi]
  simp

/-- A loop 'for i := 0; i < len(a); i++ { out[i] = g(a[i]) }'. -/
theorem fill_loop {α β R : Type} (l : List α) (g : α → β) {G : (Int × List β × Unit → Option R) → Int × List β × Unit → Option R} (k : List β → Option R) (hl : l.length ≤ 1152921504606846976)
    (hend : ∀ rec out, out.length = l.length → G rec ((l.length : Int), out, ()) = k out)
    (hstep : ∀ rec (i : Nat) out x, l[i]? = some x → i < l.length → out.length = l.length → G rec ((i : Int), out, ()) = rec ((i : Int) + 1, out.set i (g x), ())) (out : List β) (ho : out.length = l.length) :
    iter G fuel (0, out, ()) = k (l.map g) := by
  have key : ∀ n i (out : List β), i ≤ l.length → out.length = l.length → l.length - i < n → iter G n ((i : Int), out, ()) = k (out.take i ++ (l.drop i).map g) := by
    intro n
    induction n with
    | zero => intro i out h1 h2 h3; omega
    | succ n ih =>
      intro i out hi ho hn
      rcases Nat.lt_or_ge i l.length with h | h
      · have e1 : iter G (n + 1) ((i : Int), out, ()) = iter G n ((i : Int) + 1, out.set i (g l[i]), ()) := hstep (iter G n) i out l[i] (List.getElem?_eq_getElem h) h ho
        have e2 := ih (i + 1) (out.set i (g l[i])) h (by simpa using ho) (by omega)
        rw [fill_step (g l[i]) g h ho rfl] at e2
        rw [e1]
        exact e2
      · have hi' : i = l.length := by omega
        subst hi'
        have e1 : iter G (n + 1) ((l.length : Int), out, ()) = k out := hend (iter G n) out ho
        rw [e1, List.take_of_length_le (by omega), List.drop_of_length_le (Nat.le_refl _)]
        simp
  have := key fuel 0 out (Nat.zero_le _) ho (by simpa using fuel_gt hl)
  simpa using this

theorem foldK_any {α : Type} (p : α → Bool) (l : List α) : foldK (S := Unit) (fun x s rec => bif p x then some (true, ()) else rec s) (fun _ => some (false, ())) l () = some (l.any p, ()) := by
  induction l with
  | nil => rfl
  | cons x xs ih => rw [foldK_cons, ih]; cases h : p x <;> simp [h]

theorem foldK_all {α : Type} (p : α → Bool) (l : List α) : foldK (S := Unit) (fun x s rec => bif p x then rec s else some (false, ())) (fun _ => some (true, ())) l () = some (l.all p, ()) := by
  induction l with
  | nil => rfl
  | cons x xs ih => rw [foldK_cons, ih]; cases h : p x <;> simp [h]

/-- What is left of a size; -1: too little. -/
def sub (left : Int) (w : Nat) : Int := if left < (w : Int) then -1 else left - w

theorem sub_zero {left : Int} (h : 0 ≤ left) : sub left 0 = left := by unfold sub; rw [if_neg (by simpa using h)]; simp

theorem sub_nonneg {left : Int} {w : Nat} (h : ¬ sub left w < 0) : (w : Int) ≤ left ∧ sub left w = left - w := by
  unfold sub at *
  split at h
  · omega
  · next hh => exact ⟨by omega, by rw [if_neg hh]⟩

theorem sub_neg {left : Int} {w : Nat} (h : sub left w < 0) : sub left w = -1 ∧ left < w := by
  unfold sub at *
  split at h
  · next hh => exact ⟨by rw [if_pos hh], hh⟩
  · next hh => omega

theorem sub_add {left : Int} {a b : Nat} (h : ¬ sub left a < 0) : sub (sub left a) b = sub left (a + b) := by
  obtain ⟨h1, h2⟩ := sub_nonneg h
  rw [h2]
  unfold sub
  split <;> split <;> first | rfl | omega

theorem sub_more {left : Int} {a b : Nat} (h : sub left a < 0) : sub left (a + b) = -1 := by
  obtain ⟨_, h2⟩ := sub_neg h
  unfold sub
  rw [if_pos (by omega)]

theorem wr_sub {left : Int} {n : Nat} (h1 : 0 ≤ left) (h2 : left ≤ 1048576) (h3 : n ≤ 140737488355328) : wr (left - (n : Int)) = left - n := wr_id' (by omega) (by omega)

theorem sz_first {left : Int} {n : Nat} (h1 : 0 ≤ left) (h2 : left ≤ 1048576) (h3 : n ≤ 140737488355328) {R : Type} (k : Option R) (f : Int → Option R) :
    (bif decide (wr (left - (n : Int)) < 0) then k else f (wr (left - (n : Int)))) = if sub left n < 0 then k else f (sub left n) := by
  rw [wr_sub h1 h2 h3]
  unfold sub
  by_cases h : left - (n : Int) < 0
  · have h' : left < n := by omega
    simp [h, h']
  · have h' : ¬ left < n := by omega
    simp [h, h']

theorem sz_one {left : Int} {n : Nat} (h1 : 0 ≤ left) (h2 : left ≤ 1048576) (h3 : n ≤ 140737488355328) :
    (bif decide (wr (left - (n : Int)) < 0) then some ((-1 : Int), ()) else some (wr (left - (n : Int)), ())) = some (sub left n, ()) := by
  rw [sz_first h1 h2 h3 (some ((-1 : Int), ())) (fun z => some (z, ()))]
  split
  · next h => rw [(sub_neg h).1]
  · rfl

theorem sub_le {left : Int} {w : Nat} (h : left ≤ 1048576) : sub left w ≤ 1048576 := by unfold sub; split <;> omega

/-- 'left = szX(..); if left < 0 { return -1 }', and on. -/
theorem sz_next {left : Int} {a b : Nat} {f : Int → Option (Int × Unit)} (h0 : 0 ≤ left) (h1 : left ≤ 1048576) (hf : ∀ z, 0 ≤ z → z ≤ 1048576 → f z = some (sub z b, ())) :
    (bif decide (sub left a < 0) then some ((-1 : Int), ()) else f (sub left a)) = some (sub left (a + b), ()) := by
  by_cases h : sub left a < 0
  · simp only [h, decide_true, cond_true]
    rw [sub_more h]
  · simp only [h, decide_false, cond_false]
    rw [hf _ (by omega) (sub_le h1), sub_add h]

theorem sz_end {left : Int} {a : Nat} : (bif decide (sub left a < 0) then some ((-1 : Int), ()) else some (sub left a, ())) = some (sub left a, ()) := by
  by_cases h : sub left a < 0
  · simp only [h, decide_true, cond_true]; rw [(sub_neg h).1]
  · simp only [h, decide_false, cond_false]

theorem sz_loop {α : Type} (w : α → Nat) (f : α → Int → Option (Int × Unit)) : ∀ (l : List α) (left : Int), 0 ≤ left → left ≤ 1048576 → (∀ x ∈ l, ∀ z, 0 ≤ z → z ≤ 1048576 → f x z = some (sub z (w x), ())) →
    foldK (fun x s rec => (f x s).bind fun r => bif decide (r.1 < 0) then some ((-1 : Int), ()) else rec r.1) (fun s => some (s, ())) l left = some (sub left ((l.map w).sum), ())
  | [], left, h0, h1, hf => by simp [foldK, sub_zero h0]
  | x :: xs, left, h0, h1, hf => by
    rw [foldK_cons, hf x (by simp) left h0 h1]
    simp only [Option.bind_some, List.map_cons, List.sum_cons]
    exact sz_next h0 h1 fun z hz0 hz1 => sz_loop w f xs z hz0 hz1 fun y hy => hf y (by simp [hy])

end G448
