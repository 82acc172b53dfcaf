/- The evaluator of the own library, part 7: its words, its soundness. Conditions: none of its own. -/
import Derived.Test.YtgdjegapdmbfnaaGreatDoorLibF
import Derived.Deep.Slices
import Derived.Carry
import Derived.ProofKit
import Derived.OpenShut
import Derived.JoinedCond
set_option linter.unusedSimpArgs false
set_option linter.unusedVariables false

namespace Ev
open Go
set_option linter.unusedVariables false

variable {H : Type} {enc : TypeId × Value → H} {P : Program} {w : World} {tys : List (Nat × TD)}

/-- The fields lie one behind the other. -/
def tile (tys : List (Nat × TD)) : List (Nat × Nat) → Ty → Nat → Bool
 | [(off, ft)], ty, o => Nat.beq off o && (match lk tys ft with | some d => decide (d.ty = ty) && d.arr.isNone | none => false)
 | (off, ft) :: g :: r, .pair a b, o => (Nat.beq off o && (match lk tys ft with | some d => decide (d.ty = a) && d.arr.isNone | none => false)) && tile tys (g :: r) b (o + a.size)
 | _, _, _ => false

def tilesOk (tys : List (Nat × TD)) : Bool := tys.all fun x => !x.2.ty.isPair || tile tys x.2.flds x.2.ty 0

/-- A measure of readings. -/
structure Meas (μ : DataW H → Nat) : Prop where
 str : ∀ b, b.length ≤ μ (.lit (.string b))
 sl : ∀ el sp, el.length ≤ μ (.slice el sp)
 slp : ∀ el sp, ∀ d ∈ el, μ d ≤ μ (.slice el sp)
 agg : ∀ ps, ∀ d ∈ ps, μ d ≤ μ (.agg ps)

theorem TOk.cells {t : Nat} {d : TD} (h : TOk P tys t d) (ha : d.arr = none) : P.cellsOf t = d.ty.size := by
 obtain ⟨i, hi, hc⟩ := h.info
 unfold infoOk at hc
 rw [ha] at hc
 simp only [Bool.and_eq_true] at hc
 simp only [Go.Program.cellsOf, hi, Option.map_some, Option.getD_some]
 exact (beq_iff _ _).1 hc.2.1

theorem tile_one {ft : Nat} {ty : Ty} (h : (match lk tys ft with | some d => decide (d.ty = ty) && d.arr.isNone | none => false) = true) : ∃ d, lk tys ft = some d ∧ d.ty = ty ∧ d.arr = none := by
 cases hl : lk tys ft with
 | none => rw [hl] at h; cases h
 | some d =>
  rw [hl] at h
  simp only [Bool.and_eq_true, decide_eq_true_eq, Option.isNone_iff_eq_none] at h
  exact ⟨d, rfl, h.1, h.2⟩

theorem rd_fields (hT : tysOk P tys = true) {n M N : Nat} {μ : DataW H → Nat}
  (ih : ∀ (t : Nat) (d : TD) (cs : List Value) (x : DataW H × List MemPlace), lk tys t = some d → d.arr = none → DataW.trod enc P w 0 (fun _ => true) true n t cs = some x → μ x.1 ≤ M → ∃ (v : den d.ty) (fp : List Nat), Rd w d.ty v cs fp) :
  ∀ (fl : List (Nat × Nat)) (fs : List Field) (ty : Ty) (o : Nat) (cs : List Value), tile tys fl ty o = true → fldsOk tys N fs fl = true →
   (∀ f ∈ fs, ∃ x, DataW.trod enc P w 0 (fun _ => true) true n f.type ((cs.drop f.offset).take (P.cellsOf f.type)) = some x ∧ μ x.1 ≤ M) →
   ∃ (v : den ty) (fp : List Nat), Rd w ty v ((cs.drop o).take ty.size) fp
 | [], fs, ty, o, cs, h, _, _ => by simp [tile] at h
 | [(off, ft)], fs, ty, o, cs, h, hf, hx => by
  simp only [tile, Bool.and_eq_true] at h
  obtain ⟨d, hd, hty, ha⟩ := tile_one h.2
  have ho := (beq_iff _ _).1 h.1
  match fs, hf with
  | f :: fs', hf =>
   simp only [fldsOk, Bool.and_eq_true] at hf
   have h1 := (beq_iff _ _).1 hf.1.1.1
   have h2 := (beq_iff _ _).1 hf.1.1.2
   obtain ⟨x, hx1, hx2⟩ := hx f (by simp)
   rw [h2] at hx1
   have hc := (tOk hT hd).cells ha
   obtain ⟨v, fp, hr⟩ := ih ft d _ x hd ha hx1 hx2
   subst hty
   rw [hc, h1, ho] at hr
   exact ⟨v, fp, hr⟩
 | (off, ft) :: g :: r, fs, .pair a b, o, cs, h, hf, hx => by
  simp only [tile, Bool.and_eq_true] at h
  obtain ⟨d, hd, hty, ha⟩ := tile_one h.1.2
  have ho := (beq_iff _ _).1 h.1.1
  match fs, hf with
  | f :: fs', hf =>
   simp only [fldsOk, Bool.and_eq_true] at hf
   have h1 := (beq_iff _ _).1 hf.1.1.1
   have h2 := (beq_iff _ _).1 hf.1.1.2
   obtain ⟨x, hx1, hx2⟩ := hx f (by simp)
   rw [h2] at hx1
   have hc := (tOk hT hd).cells ha
   obtain ⟨v, fp, hr⟩ := ih ft d _ x hd ha hx1 hx2
   subst hty
   rw [hc, h1, ho] at hr
   obtain ⟨v2, fp2, hr2⟩ := rd_fields hT ih (g :: r) fs' b (o + d.ty.size) cs h.2 hf.2 (fun f' hf' => hx f' (by simp [hf']))
   refine ⟨(v, v2), fp ++ fp2, _, _, _, _, ?_, rfl, hr, hr2⟩
   rw [Ty.size, List.take_add, List.drop_drop]
 | (off, ft) :: g :: r, fs, .i64, o, cs, h, _, _ => by simp [tile] at h
 | (off, ft) :: g :: r, fs, .u8, o, cs, h, _, _ => by simp [tile] at h
 | (off, ft) :: g :: r, fs, .bool, o, cs, h, _, _ => by simp [tile] at h
 | (off, ft) :: g :: r, fs, .str, o, cs, h, _, _ => by simp [tile] at h
 | (off, ft) :: g :: r, fs, .sl _ _, o, cs, h, _, _ => by simp [tile] at h

/-- The elements of a slice, from the last one on. -/
theorem rd_elems {e : Ty} {arr : Array Value} {o len : Nat} (h : ∀ i < len, ∃ cs, (arr.toList.drop (o + i * e.size)).take e.size = cs ∧ ∃ (v : den e) (fp : List Nat), Rd w e v cs fp) :
  ∀ k, k ≤ len → ∃ (xs : List (den e)) (fp : List Nat), xs.length = k ∧ RdL (Rd w e) xs (arr.toList.drop (o + (len - k) * e.size)) fp
 | 0, _ => ⟨[], [], rfl, rfl⟩
 | k + 1, hk => by
  obtain ⟨xs, fp, h1, h2⟩ := rd_elems h k (by omega)
  obtain ⟨cs, hcs, v, fv, hv⟩ := h (len - (k + 1)) (by omega)
  refine ⟨v :: xs, fv ++ fp, by simp [h1], cs, _, fv, fp, ?_, rfl, hv, h2⟩
  rw [← hcs]
  have e1 : o + (len - k) * e.size = (o + (len - (k + 1)) * e.size) + e.size := by
   have : len - k = (len - (k + 1)) + 1 := by omega
   rw [this, Nat.succ_mul]; omega
  rw [e1]
  generalize o + (len - (k + 1)) * e.size = m
  rw [← List.drop_drop, List.take_append_drop]

theorem cells_at {a : Addr} {n : Nat} {cs : List Value} (h : w.cells? 0 a n = some cs) (hn : 0 < n) : ∃ arr T fr, w.heap[a.block]? = some (.cells arr T fr) ∧ a.spot = none := by
 obtain ⟨_, h1, h2⟩ := World.cells?_some h
 have h3 := h2 0 hn
 have : a.add 0 = a := by simp [Addr.add]
 rw [this] at h3
 unfold World.cell? at h3
 split at h3
 ·next arr T fr hb =>
  split at h3
  ·rw [List.getElem?_eq_getElem (by omega)] at h3; cases h3
  ·next hs => exact ⟨arr, T, fr, hb, by simpa using hs⟩
 ·rw [List.getElem?_eq_getElem (by omega)] at h3; cases h3

theorem cells_eq {a : Addr} {n i sz : Nat} {cs : List Value} {arr : Array Value} {T : TypeId} {fr : Nat × Nat} (h : w.cells? 0 (a.add i) sz = some cs) (hb : w.heap[a.block]? = some (.cells arr T fr)) (hs : a.spot = none) (hsz : 0 < sz) :
  (arr.toList.drop (a.off + i)).take sz = cs := by
 obtain ⟨_, h1, h2⟩ := World.cells?_some h
 have key : ∀ j < sz, arr[a.off + i + j]? = cs[j]? := by
  intro j hj
  have h3 := h2 j hj
  rw [Deep.add_add] at h3
  unfold World.cell? at h3
  have e1 : (a.add (i + j)).block = a.block := by unfold Addr.add; split <;> rfl
  have e2 : (a.add (i + j)).spot = none := by unfold Addr.add; split <;> simp [hs]
  have e3 : (a.add (i + j)).off = a.off + (i + j) := by unfold Addr.add; split <;> simp_all
  rw [e1, hb] at h3
  simp only [e2, e3, Option.isSome_none, Bool.false_eq_true, if_false] at h3
  rw [← h3]
  congr 1
  omega
 apply List.ext_getElem?
 intro j
 by_cases hj : j < sz
 ·rw [List.getElem?_take_of_lt hj, List.getElem?_drop, ← key j hj, Array.getElem?_toList]
 ·rw [List.getElem?_eq_none (by simp; omega), List.getElem?_eq_none (by omega)]

/-- **A statement's reading is a reading of the evaluator's.** -/
theorem rd_of_trod (hT : tysOk P tys = true) (hTi : tilesOk tys = true) {μ : DataW H → Nat} (hμ : Meas μ) : ∀ (n : Nat) (t : Nat) (d : TD) (cs : List Value) (x : DataW H × List MemPlace), lk tys t = some d → d.arr = none →
  DataW.trod enc P w 0 (fun _ => true) true n t cs = some x → μ x.1 ≤ 1048576 → ∃ (v : den d.ty) (fp : List Nat), Rd w d.ty v cs fp := by
 intro n
 induction n with
 | zero => intro t d cs x _ _ h; simp [DataW.trod] at h
 | succ n ih =>
  intro t d cs x hd ha h hb
  have ht := tOk hT hd
  have hti := List.all_eq_true.1 hTi _ (lk_mem hd)
  obtain ⟨ty, bytes, flds, arr⟩ := d
  simp only at ha hti
  subst ha
  cases ty with
  | i64 =>
   obtain ⟨m, rfl, rfl, hw⟩ := DataW.trod_int (ht.i64 rfl rfl) h
   refine ⟨m, [], rfl, rfl, ?_⟩
   rw [bnd_i64]
   simpa [Lit.wf, IntKind.min, IntKind.max, IntKind.signed, IntKind.bits] using hw
  | u8 =>
   obtain ⟨m, rfl, rfl, hw⟩ := DataW.trod_int (ht.u8 rfl rfl) h
   have hm : 0 ≤ m ∧ m ≤ 255 := by simpa [Lit.wf, IntKind.min, IntKind.max, IntKind.signed, IntKind.bits] using hw
   refine ⟨UInt8.ofNat m.toNat, [], ?_, rfl⟩
   have : ((UInt8.ofNat m.toNat).toNat : Int) = m := by
    rw [UInt8.toNat_ofNat', Nat.mod_eq_of_lt (by simp; omega)]
    omega
   rw [this]
  | bool =>
   obtain ⟨m, rfl, rfl⟩ := DataW.trod_bool (ht.bool rfl) h
   exact ⟨m, [], rfl, rfl⟩
  | str =>
   obtain ⟨s, rfl, rfl, hw⟩ := DataW.trod_string (ht.str rfl rfl) h
   refine ⟨s.data.toList, [], rfl, rfl, ?_⟩
   have := hμ.str s.data.toList
   simp only [Bnd]
   simp only at hb
   omega
  | sl E e =>
   obtain ⟨hu, de, hde, hty, hda⟩ := ht.slice rfl rfl
   rcases DataW.trod_slice hu h with ⟨rfl, rfl⟩ | ⟨a, len, cap, elems, rest, n', hn', rfl, rfl, hb0, hl, hm, hlen, hel, _⟩
   ·exact ⟨[], [], none, 0, 0, rfl, rfl, Nat.le_refl _, by simp, .inl ⟨rfl, rfl⟩⟩
   ·cases hn'
    simp only at hb
    have hlb := hμ.sl (elems.map (·.1)) (rest.map (·.1))
    rw [List.length_map, hlen] at hlb
    rcases Nat.eq_zero_or_pos len with h0 | hpos
    ·subst h0
     exact ⟨[], [], some a, 0, cap, rfl, rfl, hl, by simp, .inl ⟨rfl, rfl⟩⟩
    ·have hsz : P.cellsOf E = de.ty.size := (tOk hT hde).cells hda
     have hsp := de.ty.size_pos
     have hget : ∀ i < len, ∃ cs', w.cells? 0 (a.add (i * P.cellsOf E)) (P.cellsOf E) = some cs' ∧ ∃ y, elems[i]? = some y ∧ DataW.trod enc P w 0 (fun _ => true) true n E cs' = some y := by
      intro i hi
      have := hel i hi
      rw [List.getElem?_eq_getElem (by omega)] at this
      obtain ⟨cs', h1, h2⟩ := Option.bind_eq_some_iff.1 this
      exact ⟨cs', h1, _, List.getElem?_eq_getElem (by omega), h2⟩
     obtain ⟨cs0, hc0, _⟩ := hget 0 hpos
     rw [Nat.zero_mul, show a.add 0 = a by simp [Addr.add]] at hc0
     obtain ⟨arr, T, fr, hblk, hspot⟩ := cells_at hc0 (by omega)
     have hE : ∀ i < len, ∃ cs, (arr.toList.drop (a.off + i * de.ty.size)).take de.ty.size = cs ∧ ∃ (v : den de.ty) (fp : List Nat), Rd w de.ty v cs fp := by
      intro i hi
      obtain ⟨cs', h1, y, hy, h2⟩ := hget i hi
      rw [hsz] at h1
      refine ⟨cs', cells_eq (n := 0) h1 hblk hspot hsp, ih E de cs' y hde hda h2 ?_⟩
      have := hμ.slp (elems.map (·.1)) (rest.map (·.1)) y.1 (List.mem_map_of_mem (List.mem_of_getElem? hy))
      omega
     obtain ⟨xs, fp, hx1, hx2⟩ := rd_elems hE len (Nat.le_refl _)
     rw [Nat.sub_self, Nat.zero_mul, Nat.add_zero] at hx2
     subst hty
     obtain ⟨ab, ao, asp⟩ := a
     simp only at hspot hblk hx2
     subst hspot
     exact ⟨xs, ab :: fp, some ⟨ab, ao, none⟩, len, cap, rfl, hx1.symm, hl, by omega, .inr ⟨ab, ao, arr, T, fr, fp, rfl, hblk, rfl, hx2⟩⟩
  | pair a b =>
   obtain ⟨fs, hu, hf⟩ := ht.struct rfl rfl
   obtain ⟨xs, n', hn', rfl, hlen, hxl, hget⟩ := DataW.trod_struct hu h
   cases hn'
   have hsz : P.cellsOf t = (Ty.pair a b).size := ht.cells rfl
   simp only [Ty.isPair, Bool.not_true, Bool.false_or] at hti
   have hF := rd_fields hT (n := n) (M := 1048576) (N := (Ty.pair a b).size) (μ := μ) ih flds fs.toList (Ty.pair a b) 0 cs hti hf (fun f hf' => by
    obtain ⟨i, hi⟩ := List.mem_iff_getElem?.1 hf'
    have hi' : fs[i]? = some f := by rw [← Array.getElem?_toList]; exact hi
    have hlt : i < xs.length := by
     rw [hxl, ← Array.length_toList]
     rcases Nat.lt_or_ge i fs.toList.length with h | h
     ·exact h
     ·rw [List.getElem?_eq_none h] at hi; cases hi
    have := hget i f hi'
    rw [List.getElem?_eq_getElem hlt] at this
    refine ⟨xs[i], this, ?_⟩
    have h2 := hμ.agg (xs.map (·.1)) xs[i].1 (List.mem_map_of_mem (List.getElem_mem hlt))
    simp only at hb
    omega)
   rw [List.drop_zero, List.take_of_length_le (by omega)] at hF
   exact hF

end Ev

namespace Ev
open Go Go.ChangeShapes Go.WideShapes Go.RowKit
set_option linter.unusedVariables false

variable {H : Type} {enc : TypeId × Value → H} {P : Program} {w w' : World} {tys : List (Nat × TD)}

theorem calls_of_callsTo {f : FuncId} {fn : Func} {args : Array Value} {R : Value → World → Prop} (hf : P.funcs[f]? = some fn) (hb : fn.body.isSome = true) (hn : (fn.name == "runtime.NumGoroutine") = false) (h : CallsTo P f args w R) :
  Calls P f args w fun e w' => ∃ v, e = .returned v ∧ R v w' := by
 obtain ⟨body, hbody⟩ := Option.isSome_iff_exists.1 hb
 have hcf : (callFunc f args).run P w = .ok (.enter f args) w := by
  have hn' : ¬ fn.name = "runtime.NumGoroutine" := by simpa using hn
  simp [callFunc, hf, hn', hbody]
 unfold CallsTo at h
 rw [hcf] at h
 refine Calls.mono h fun e w'' he => ?_
 cases e with
 | returned v => exact ⟨v, rfl, he⟩
 | panicked _ => exact he.elim
 | outgrown => exact he.elim

theorem ret_bool {n : Nat} {rr xo pt : List Nat} {v : Value} {b : Bool} (h : RetsOk w' n .uniq rr xo pt [.bool] v (b, ())) : v = .bool b := by
 obtain ⟨css, xs, fs, h1, h2, _⟩ := h
 obtain ⟨cs, css', x1, x2, f1, f2, rfl, _, _, h3, h4⟩ := h1
 obtain ⟨rfl, _, _⟩ := h4
 have h5 : RdO w' .bool b cs x1 f1 := h3
 obtain ⟨⟨rfl, _⟩, _, _⟩ := h5
 rw [h2]
 rfl

/-- An argument. -/
theorem arg_ok (hT : tysOk P tys = true) (hTi : tilesOk tys = true) {μ : DataW H → Nat} (hμ : Meas μ) {r : Reach} {b0 : Nat} {t : Nat} {d : TD} {v : Value} {dd : DataW H} {ps : List MemPlace} (hd : lk tys t = some d) (ha : d.arr = none)
  (hval : Value.okWide P w r b0 t v) (h : DataW.Trod enc P w 0 (fun _ => true) true t v dd ps) (hb : μ dd ≤ 1048576) : ∃ (x : den d.ty) (cs : List Value) (fp : List Nat), v = valOf d.ty cs ∧ Rd w d.ty x cs fp := by
 obtain ⟨n, hn⟩ := h
 obtain ⟨x, fp, hx⟩ := rd_of_trod hT hTi hμ n t d v.cells.toList (dd, ps) hd ha hn hb
 refine ⟨x, v.cells.toList, fp, ?_, hx⟩
 have ht := tOk hT hd
 cases hty : d.ty with
 | i64 =>
  obtain ⟨m, rfl⟩ := okWide_int (ht.i64 hty ha) hval
  rfl
 | u8 =>
  obtain ⟨m, rfl⟩ := okWide_int (ht.u8 hty ha) hval
  rfl
 | bool =>
  obtain ⟨m, rfl⟩ := okWide_bool (ht.bool hty) hval
  rfl
 | str =>
  obtain ⟨m, rfl⟩ := okWide_string (ht.str hty ha) hval
  rfl
 | sl E e =>
  obtain ⟨hu, _⟩ := ht.slice hty ha
  obtain ⟨a, l, c, rfl⟩ := okWide_slice hu hval
  rfl
 | pair a b =>
  obtain ⟨fs, hu, _⟩ := ht.struct (by rw [hty]; rfl) ha
  obtain ⟨cs, rfl, _⟩ := okWide_struct hu hval
  simp [valOf, Ty.isPair, Value.cells]

theorem keptBut_below {may : MemPlace → Prop} (h : Below w.heap.size w w') : w.keptBut w' may := by
 refine ⟨h.os, h.output, fun i hi => ?_⟩
 rw [h.block i hi]
 split
 ·next h1 h2 => rw [h1] at h2; cases h2; exact ⟨rfl, rfl, rfl, fun _ _ => rfl⟩
 ·next h1 h2 => rw [h1] at h2; cases h2; exact .inr ⟨rfl, rfl⟩
 ·rfl

/-- What a law's statement asks behind the call. -/
theorem post_law {f : Func} {s : ChangeSpec} {args : Array Value} {v : Value} {ds : List (DataW H)} {before : List MemPlace} (hsv : s.vars = [])
  (hW : DataW.Whole enc P f.params.toList s.vars false w args.toList ds [] before)
  (hres : ∀ (b : Nat) (sp : Nat → Bool), DataW.TrodAll enc P w' b sp false f.resultTypes.toList (v.resultList f.resultTypes.size) (s.fn H (ds ++ [])).results [])
  (hargs : DataW.TrodAll enc P w' 0 (fun b => decide (b < w.heap.size)) true f.params.toList args.toList (s.fn H (ds ++ [])).args before)
  (hv : (s.fn H (ds ++ [])).vars = []) (hk : Below w.heap.size w w') : s.post enc P f false true false false w args v w' := by
 refine ⟨ds, [], before, [], before, [], hW, hres _ _, hargs, ?_, keptBut_below hk, fun h => by cases h⟩
 rw [hsv, hv]
 rfl

end Ev
namespace Ev
open Go
variable {P : Program} {gl : Glob}

def AllS (P : Program) (gl : Glob) : List (Nat × PF) → Prop
 | [] => True
 | [x] => Sound P gl x.1 x.2 ∧ True
 | x :: y :: r => Sound P gl x.1 x.2 ∧ AllS P gl (y :: r)

def AllN (P : Program) (gl : Glob) : List (Nat × NF) → Prop
 | [] => True
 | [x] => SoundN P gl x.1 x.2 ∧ True
 | x :: y :: r => SoundN P gl x.1 x.2 ∧ AllN P gl (y :: r)

theorem AllS.mem : ∀ {l : List (Nat × PF)}, AllS P gl l → ∀ x ∈ l, Sound P gl x.1 x.2
 | [], _, _, hx => by simp at hx
 | [x], h, y, hy => by
  have : y = x := by simpa using hy
  subst this
  exact h.1
 | x :: z :: r, h, y, hy => by
  rcases List.mem_cons.1 hy with rfl | hy
  ·exact h.1
  ·exact AllS.mem h.2 y hy

theorem AllN.mem : ∀ {l : List (Nat × NF)}, AllN P gl l → ∀ x ∈ l, SoundN P gl x.1 x.2
 | [], _, _, hx => by simp at hx
 | [x], h, y, hy => by
  have : y = x := by simpa using hy
  subst this
  exact h.1
 | x :: z :: r, h, y, hy => by
  rcases List.mem_cons.1 hy with rfl | hy
  ·exact h.1
  ·exact AllN.mem h.2 y hy

def AllM (P : Program) (gl : Glob) : List (Nat × MF) → Prop
 | [] => True
 | [x] => SoundM P gl x.1 x.2
 | x :: r => SoundM P gl x.1 x.2 ∧ AllM P gl r

theorem AllM.mem : ∀ {l : List (Nat × MF)}, AllM P gl l → ∀ x ∈ l, SoundM P gl x.1 x.2
 | [], _, _, hx => by simp at hx
 | [x], h, y, hy => by
  have : y = x := by simpa using hy
  subst this
  exact h
 | x :: z :: r, h, y, hy => by
  rcases List.mem_cons.1 hy with rfl | hy
  ·exact h.1
  ·exact AllM.mem h.2 y hy

def AllC (P : Program) (gl : Glob) : List (Nat × PF) → Prop
 | [] => True
 | [x] => SoundC P gl x.1 x.2
 | x :: r => SoundC P gl x.1 x.2 ∧ AllC P gl r

theorem AllC.mem : ∀ {l : List (Nat × PF)}, AllC P gl l → ∀ x ∈ l, SoundC P gl x.1 x.2
 | [], _, _, hx => by simp at hx
 | [x], h, y, hy => by
  have : y = x := by simpa using hy
  subst this
  exact h
 | x :: z :: r, h, y, hy => by
  rcases List.mem_cons.1 hy with rfl | hy
  ·exact h.1
  ·exact AllC.mem h.2 y hy

theorem envOk_of {tys : List (Nat × TD)} {eqs : List Nat} {fns : List (Nat × PF)} {news : List (Nat × NF)} {muts : List (Nat × MF)} {frz : Bool} {conds : List (Nat × PF)} (hm : P.follows .mixedOrders = true) (hT : tysOk P tys = true) (hQ : eqs.all (eqOk P tys) = true)
  (h : AllS P gl fns) (h2 : AllN P gl news) (h3 : AllM P gl muts) (h4 : AllC P gl conds) : EnvOk P gl ⟨tys, fns, eqs, news, muts, frz, conds⟩ :=
 ⟨hm, hT, hQ, fun f pf hl => h.mem _ (lk_mem hl), fun f nf hl => h2.mem _ (lk_mem hl), fun f mf hl => h3.mem _ (lk_mem hl), fun f cf hl => h4.mem _ (lk_mem hl)⟩

end Ev

namespace Ev
open Go
set_option linter.unusedVariables false

variable {P : Program}

def finTurn (fn : Func) (t : Ty) (ls : List Leaf) (st : St) : Option (den t × Int × Unit) := match fn.results.toList with
 | [.tmp s] => match st.slots[s]? with
  | some (.v (.one (.i n))) => match turnIds st ls, collect1 st.tab t ls with
   | some _, some v => some (v, n, ())
   | _, _ => none
  | _ => none
 | _ => none

noncomputable def evTurnFun (F : FEnv) (fn : Func) (t : Ty) (args : den t × Int × Unit) : Option (den t × Int × Unit) :=
 match fn.body, spread .lent 0 t args.1 0 with
 | some body, (ls, es, j) => match mkV t ls with
  | some x => evCode F body { slots := [.v x, .v (.one (.i args.2.1))] ++ List.replicate (fn.ntmps - 2) (.tup []), tab := es, nxt := j, lvl := 0 } fun x st =>
    match x with
    | .exit _ => none
    | .normal => finTurn fn t ls st
    | .ret => finTurn fn t ls st
  | none => none
 | none, _ => none

theorem spread_lent {w : World} (lvl : Nat) : ∀ (t : Ty) (v : den t) (j : Nat) (cs : List Value) (fp : List Nat) (loc : Nat → Value) (γ : Nat → Own), Rd w t v cs fp → fp.Nodup →
  ∃ (loc' : Nat → Value) (γ' : Nat → Own), (∀ i, (i < j ∨ (spread .lent lvl t v j).2.2 ≤ i) → loc' i = loc i) ∧ All2 (LeafOk loc') (spread .lent lvl t v j).1 cs ∧ (∀ b, b ∉ fp → γ' b = γ b) ∧
   ∀ (id : Nat) (e : Ent), look (spread .lent lvl t v j).2.1 id = some e → ∃ E t' xs f, e = .arr .lent lvl E t' xs ∧ Rd w (.sl E t') xs [loc' id] f ∧ f.Nodup ∧ ∀ b ∈ f, b ∈ fp ∧ γ' b = .deep id
 | .i64, v, j, cs, fp, loc, γ, h, hn => by
  obtain ⟨rfl, rfl, hb⟩ := h
  exact ⟨loc, γ, fun _ _ => rfl, ⟨⟨rfl, hb⟩, trivial⟩, fun _ _ => rfl, by intro id e h; cases h⟩
 | .u8, v, j, cs, fp, loc, γ, h, hn => by
  obtain ⟨rfl, rfl⟩ := h
  exact ⟨loc, γ, fun _ _ => rfl, ⟨rfl, trivial⟩, fun _ _ => rfl, by intro id e h; cases h⟩
 | .bool, v, j, cs, fp, loc, γ, h, hn => by
  obtain ⟨rfl, rfl⟩ := h
  exact ⟨loc, γ, fun _ _ => rfl, ⟨rfl, trivial⟩, fun _ _ => rfl, by intro id e h; cases h⟩
 | .str, v, j, cs, fp, loc, γ, h, hn => by
  obtain ⟨rfl, rfl, hb⟩ := h
  exact ⟨loc, γ, fun _ _ => rfl, ⟨⟨rfl, hb⟩, trivial⟩, fun _ _ => rfl, by intro id e h; cases h⟩
 | .sl E e, v, j, cs, fp, loc, γ, h, hn => by
  classical
  have h0 := h
  obtain ⟨a, n, c, rfl, h2⟩ := h
  refine ⟨fun i => if i = j then .slice a n c else loc i, fun b => if b ∈ fp then .deep j else γ b, ?_, ⟨⟨by simp, a, n, c, rfl⟩, trivial⟩, fun b hb => if_neg hb, ?_⟩
  ·intro i hi
   have : i ≠ j := by simp only [spread] at hi; omega
   simp [this]
  ·intro id e' he
   simp only [spread, look_cons] at he
   split at he
   ·next hid =>
    cases he
    subst hid
    exact ⟨E, e, v, fp, rfl, by simpa using h0, hn, fun b hb => ⟨hb, if_pos hb⟩⟩
   ·cases he
 | .pair x y, v, j, cs, fp, loc, γ, h, hn => by
  obtain ⟨c1, c2, f1, f2, rfl, rfl, h1, h2⟩ := h
  obtain ⟨n1, n2, n3⟩ := List.nodup_append.1 hn
  obtain ⟨loc1, γ1, a1, a2, a3, a4⟩ := spread_lent lvl x v.1 j c1 f1 loc γ h1 n1
  obtain ⟨loc2, γ2, b1, b2, b3, b4⟩ := spread_lent lvl y v.2 (spread .lent lvl x v.1 j).2.2 c2 f2 loc1 γ1 h2 n2
  have so1 := spreadOk .lent lvl x v.1 j
  have so2 := spreadOk .lent lvl y v.2 (spread .lent lvl x v.1 j).2.2
  refine ⟨loc2, γ2, ?_, ?_, ?_, ?_⟩
  ·intro i hi
   have e3 : (spread .lent lvl (.pair x y) v j).2.2 = (spread .lent lvl y v.2 (spread .lent lvl x v.1 j).2.2).2.2 := rfl
   rw [e3] at hi
   have l1 := so1.le
   have l2 := so2.le
   rw [b1 i (by omega), a1 i (by omega)]
  ·have e3 : (spread .lent lvl (.pair x y) v j).1 = (spread .lent lvl x v.1 j).1 ++ (spread .lent lvl y v.2 (spread .lent lvl x v.1 j).2.2).1 := rfl
   rw [e3]
   exact (a2.leafLoc (n := (spread .lent lvl x v.1 j).2.2) so1.lt (fun i hi => b1 i (.inl hi))).append b2
  ·intro b hb
   simp only [List.mem_append, not_or] at hb
   rw [b3 b hb.2, a3 b hb.1]
  ·intro id e he
   have e3 : (spread .lent lvl (.pair x y) v j).2.1 = (spread .lent lvl x v.1 j).2.1 ++ (spread .lent lvl y v.2 (spread .lent lvl x v.1 j).2.2).2.1 := rfl
   rw [e3, look_append] at he
   cases hh : look (spread .lent lvl x v.1 j).2.1 id with
   | some e' =>
    rw [hh] at he
    cases he
    obtain ⟨E, t', xs, f, rfl, g1, g2, g3⟩ := a4 id _ hh
    have hk := so1.keys id _ hh
    refine ⟨E, t', xs, f, rfl, by rw [b1 id (.inl hk.2.1)]; exact g1, g2, fun b hb => ⟨by simp [(g3 b hb).1], ?_⟩⟩
    rw [b3 b (fun hm => n3 b (g3 b hb).1 b hm rfl)]
    exact (g3 b hb).2
   | none =>
    rw [hh] at he
    obtain ⟨E, t', xs, f, rfl, g1, g2, g3⟩ := b4 id e (by simpa using he)
    exact ⟨E, t', xs, f, rfl, g1, g2, fun b hb => ⟨by simp [(g3 b hb).1], (g3 b hb).2⟩⟩

theorem sound_funM {F : FEnv} {gl : Glob} (hE : EnvOk P gl F.E) {f : FuncId} {fn : Func} (hf : P.funcs[f]? = some fn) (hn : (fn.name == "runtime.NumGoroutine") = false) {mf : MF}
  (hev : ∀ args v, mf.fn args = some v → evTurnFun F fn mf.ty args = some v) : SoundM P gl f mf := by
 constructor
 intro w v n cs fp rr hrd hbn hnd hun hG hgb hout
 have hout := hev _ _ hout
 unfold evTurnFun at hout
 split at hout
 ·next body ls es j hbody hsp =>
  split at hout
  ·next x hmk =>
   have hcf : (callFunc f #[valOf mf.ty cs, .int .i64 n]).run P w = .ok (.enter f #[valOf mf.ty cs, .int .i64 n]) w := by
    have hn' : ¬ fn.name = "runtime.NumGoroutine" := by simpa using hn
    simp [callFunc, hf, hn', hbody]
   unfold CallsTo
   rw [hcf]
   simp only
   refine calls_of_wp hf hbody ?_
   obtain ⟨loc, γ, a1, a2, a3, a4⟩ := spread_lent (w := w) 0 mf.ty v 0 cs fp (fun _ => undef) (fun _ => .alien) hrd hnd
   have so := spreadOk .lent 0 mf.ty v 0
   have slt := so.lt
   have skeys := so.keys
   rw [hsp] at a1 a2 a4 slt skeys
   simp only at a1 a2 a4 slt skeys
   obtain ⟨v1, v2⟩ := mkV_ok (n := j) hmk a2 slt
   have hvals : All2 (AVOk loc) [.v x, .v (.one (.i n))] [valOf mf.ty cs, .int .i64 n] := ⟨v1, ⟨rfl, hbn⟩, trivial⟩
   have hlts : ∀ y ∈ [AV.v x, .v (.one (.i n))], y.lt j := by
    intro y hy
    simp only [List.mem_cons, List.not_mem_nil, or_false] at hy
    rcases hy with rfl | rfl
    ·exact v2
    ·exact trivial
   let A : Ctx := { rds := [], pins := (List.range j).map fun i => (i, loc i), gl := gl }
   have hrel : Rel w.heap.size fp A w { slots := [.v x, .v (.one (.i n))] ++ List.replicate (fn.ntmps - 2) (.tup []), tab := es, nxt := j, lvl := 0 }
     { tmps := #[valOf mf.ty cs, .int .i64 n] ++ Array.replicate (fn.ntmps - (#[valOf mf.ty cs, .int .i64 n] : Array Value).size) undef, defers := [] } w := by
    refine ⟨γ, loc, ?_⟩
    exact {
     defers := rfl
     keeps := KeepsW.refl _ _ _
     unf := fun b hb => by
      by_cases hx : b ∈ fp
      ·exact hun b hx
      ·rw [a3 b hx] at hb; exact hb.elim
     old := fun b hb hx => by left; rw [a3 b hx]
     Ble := Nat.le_refl _
     size := by simp; omega
     slots := fun t y hy => (entry_slots (n := fn.ntmps) hvals hlts t y hy).1
     ents := fun id e he => by
      obtain ⟨E, t', xs, g, rfl, g1, g2, g3⟩ := a4 id e he
      exact ⟨g, g1, g2, fun b hb => (g3 b hb).2⟩
     slt := fun t y hy => (entry_slots (n := fn.ntmps) hvals hlts t y hy).2
     elt := fun id e he => by
      obtain ⟨E, t', xs, g, rfl, g1, g2, g3⟩ := a4 id e he
      exact ⟨trivial, (skeys id _ he).2.1⟩
     pins := fun p hp => by
      obtain ⟨i, hi, rfl⟩ := List.mem_map.1 hp
      exact ⟨List.mem_range.1 hi, rfl⟩
     dlab := by simp [A]
     glob := ⟨hG, hgb, Nat.le_refl _, hun⟩
     dpc := by simp [A] }
   refine sound_code hE ⟨rfl, rfl⟩ body _ _ _ w _ hout hrel ?_
   intro x' st' hk hp a' w' hr'
   have hmain : finTurn fn mf.ty ls st' = some rr → a'.defers = [] ∧ ∃ u, (results fn a'.tmps).run P w' = .ok u w' ∧ (KeepsW w.heap.size fp w w' ∧ u = .int .i64 rr.2.1 ∧ Bnd .i64 rr.2.1 ∧ ∃ fp', Rd w' mf.ty rr.1 cs fp' ∧ fp'.Nodup ∧ ∀ b ∈ fp', (b ∈ fp ∨ w.heap.size ≤ b) ∧ Unfr w' b) := by
    intro hk
    obtain ⟨γ', loc', hr'⟩ := hr'
    refine ⟨hr'.defers, ?_⟩
    unfold finTurn at hk
    split at hk
    ·next s hres =>
     split at hk
     ·next m hs =>
      split at hk
      ·next ids v' hids hcol =>
       cases hk
       have hm : a'.tmps.getD s undef = .int .i64 m ∧ Bnd .i64 m := hr'.slots s _ hs
       have hrr : (results fn a'.tmps).run P w' = .ok (retV [a'.tmps.getD s undef]) w' := by
        refine run_results ?_
        rw [hres]
        exact ⟨by simp [resVal], trivial⟩
       have hall : All2 (LeafOk loc') ls cs := a2.leafLoc slt (fun i hi => (hr'.pins (i, loc i) (List.mem_map.2 ⟨i, List.mem_range.2 hi, rfl⟩)).2)
       obtain ⟨ls1, cs1, cs2, as, ids2, e1, e2, e3, hlv, e4, e5⟩ := lv_in hr' mf.ty ls cs v' [] ids (collect1_eq hcol) hall hids
       simp only [List.append_nil] at e1
       subst e1
       have hc2 : cs2 = [] := by
        cases cs2 with
        | nil => rfl
        | cons _ _ => exact e3.elim
       subst hc2
       simp only [List.append_nil] at e2
       subst e2
       have hi2 : ids2 = [] := by simp only [turnIds, Option.some.injEq] at e4; exact e4.symm
       subst hi2
       simp only [List.append_nil] at e5
       have hidn : (as.map (·.1)).Nodup := by rw [← e5]; exact turnIds_nodup hids
       have hlabs := hlv.labs
       refine ⟨_, hrr, hr'.keeps, hm.1, hm.2, blks as, hlv.rd, blks_nodup hidn (fun p hp => ⟨(hlabs p hp).1, (hlabs p hp).2.1⟩), ?_⟩
       intro b hb
       obtain ⟨h0, h1, h2⟩ := blks_unfr hr' (fun p hp => (hlabs p hp).2.1) b hb
       refine ⟨?_, h0⟩
       by_cases hx : b ∈ fp
       ·exact .inl hx
       ·right
        rcases Nat.lt_or_ge b w.heap.size with hlt | hge
        ·rcases hr'.old b hlt hx with h | ⟨h, _⟩
         ·exact absurd h h1
         ·exact absurd h h2
        ·exact hge
      ·cases hk
     ·cases hk
    ·cases hk
   cases x' with
   | exit id => cases hk
   | normal => exact hmain hk
   | ret => exact hmain hk
  ·cases hout
 ·cases hout

end Ev
