/-
  No cell of these rows narrows 'for every input' (looked for: loops, veiled, ifaces, maps, wideKeys, modest, calm, conditions, laid).
  DERIVED. THE GIVEN ROWS OF THIS SEAT. 7 by the template 'for every input the law returns true; each argument reads behind the call as it read before'; 0 by the template 'total and deterministic' (their statements: YtcpjfipnagidgaaTotals.lean).
  GIVEN WITH THE SEED: the statements are not yours to turn. If you find one false, say at which input.
  Laid BY PROGRAM, IN A SANDBOX (cutbox-rows.mjs): the forced cells as the released guide's own fill.sh prints them over the translation 7ad4b09f588c8160… (all of the seat's roots in one cut). By AI agents, Wed Nov 11 2026. No macro, syntax, notation, axiom, sorry.
-/
import Derived.Test.YtcpjfipnagidgaaChecked
import GoSem.Claim
import GoSem.ClaimJoined
import GoSem.ClaimMapViews
import Derived.JoinedTies
import Derived.KernelRfl
namespace Go.Proofs.Ytcpjfipnagidgaa
/- THE CELL 'sum', in the pinned program and in every row, IS THE sha256 OF THE DUMP (.gsa) THAT YtcpjfipnagidgaaProg.lean LOADS. Nothing in Lean hashes anything: it is a label: what it is worth is what the hold of that sum in a sandbox is worth. -/
noncomputable def Try.pinned : Pinned := { name := "ytcpjfipnagidgaa", sum := "7ad4b09f588c8160531f387a8dc2ba21f456651273d8594477d493ddf8734f20", checked := Try.checked }
namespace Rows
def none {H : Type} : Left H := { results := [], args := [] }

/-- 'laws.FnExactAppend': WHATEVER THE INPUT: true; the input reads as it did. -/
def fnExactAppendSpec : ChangeSpec := { name := "fnExactAppend", fn := fun _ => fun
  | [d1, d2] => { results := [.lit (.bool true)], args := [d1, d2] }
  | _ => none }
def fnExactAppendRow : OpenClaim := { program := "ytcpjfipnagidgaa", sum := "7ad4b09f588c8160531f387a8dc2ba21f456651273d8594477d493ddf8734f20", func := "loop.example/g00448/laws.FnExactAppend", spec := "fnExactAppend", apart := false }
def FnExactAppendSaid : Prop := fnExactAppendRow.holds Try.pinned (OpenSpec.ofChange fnExactAppendSpec)

/-- ITS FALSE NEIGHBOUR: 'it returns false'. Refute it at one input. -/
def fnExactAppendWrong : ChangeSpec := { name := "fnExactAppend", fn := fun _ => fun
  | [d1, d2] => { results := [.lit (.bool false)], args := [d1, d2] }
  | _ => none }
def FnExactAppendWrongFalsely : Prop := fnExactAppendRow.holds Try.pinned (OpenSpec.ofChange fnExactAppendWrong)

/-- 'laws.FnExactFallTo': WHATEVER THE INPUT: true; the input reads as it did. -/
def fnExactFallToSpec : ChangeSpec := { name := "fnExactFallTo", fn := fun _ => fun
  | [d1, d2] => { results := [.lit (.bool true)], args := [d1, d2] }
  | _ => none }
def fnExactFallToRow : OpenClaim := { program := "ytcpjfipnagidgaa", sum := "7ad4b09f588c8160531f387a8dc2ba21f456651273d8594477d493ddf8734f20", func := "loop.example/g00448/laws.FnExactFallTo", spec := "fnExactFallTo", apart := false }
def FnExactFallToSaid : Prop := fnExactFallToRow.holds Try.pinned (OpenSpec.ofChange fnExactFallToSpec)

/-- ITS FALSE NEIGHBOUR: 'it returns false'. Refute it at one input. -/
def fnExactFallToWrong : ChangeSpec := { name := "fnExactFallTo", fn := fun _ => fun
  | [d1, d2] => { results := [.lit (.bool false)], args := [d1, d2] }
  | _ => none }
def FnExactFallToWrongFalsely : Prop := fnExactFallToRow.holds Try.pinned (OpenSpec.ofChange fnExactFallToWrong)

/-- 'laws.FnExactSigned': WHATEVER THE INPUT: true; the input reads as it did. -/
def fnExactSignedSpec : ChangeSpec := { name := "fnExactSigned", fn := fun _ => fun
  | [d1, d2, d3, d4, d5] => { results := [.lit (.bool true)], args := [d1, d2, d3, d4, d5] }
  | _ => none }
def fnExactSignedRow : OpenClaim := { program := "ytcpjfipnagidgaa", sum := "7ad4b09f588c8160531f387a8dc2ba21f456651273d8594477d493ddf8734f20", func := "loop.example/g00448/laws.FnExactSigned", spec := "fnExactSigned", apart := false }
def FnExactSignedSaid : Prop := fnExactSignedRow.holds Try.pinned (OpenSpec.ofChange fnExactSignedSpec)

/-- ITS FALSE NEIGHBOUR: 'it returns false'. Refute it at one input. -/
def fnExactSignedWrong : ChangeSpec := { name := "fnExactSigned", fn := fun _ => fun
  | [d1, d2, d3, d4, d5] => { results := [.lit (.bool false)], args := [d1, d2, d3, d4, d5] }
  | _ => none }
def FnExactSignedWrongFalsely : Prop := fnExactSignedRow.holds Try.pinned (OpenSpec.ofChange fnExactSignedWrong)

/-- 'laws.FnDisks': WHATEVER THE INPUT: true; the input reads as it did. -/
def fnDisksSpec : ChangeSpec := { name := "fnDisks", fn := fun _ => fun
  | [d] => { results := [.lit (.bool true)], args := [d] }
  | _ => none }
def fnDisksRow : OpenClaim := { program := "ytcpjfipnagidgaa", sum := "7ad4b09f588c8160531f387a8dc2ba21f456651273d8594477d493ddf8734f20", func := "loop.example/g00448/laws.FnDisks", spec := "fnDisks", apart := false }
def FnDisksSaid : Prop := fnDisksRow.holds Try.pinned (OpenSpec.ofChange fnDisksSpec)

/-- ITS FALSE NEIGHBOUR: 'it returns false'. Refute it at one input. -/
def fnDisksWrong : ChangeSpec := { name := "fnDisks", fn := fun _ => fun
  | [d] => { results := [.lit (.bool false)], args := [d] }
  | _ => none }
def FnDisksWrongFalsely : Prop := fnDisksRow.holds Try.pinned (OpenSpec.ofChange fnDisksWrong)

/-- 'laws.FnExactMsgSame': WHATEVER THE INPUT: true; the input reads as it did. -/
def fnExactMsgSameSpec : ChangeSpec := { name := "fnExactMsgSame", fn := fun _ => fun
  | [d1, d2] => { results := [.lit (.bool true)], args := [d1, d2] }
  | _ => none }
def fnExactMsgSameRow : OpenClaim := { program := "ytcpjfipnagidgaa", sum := "7ad4b09f588c8160531f387a8dc2ba21f456651273d8594477d493ddf8734f20", func := "loop.example/g00448/laws.FnExactMsgSame", spec := "fnExactMsgSame", apart := false }
def FnExactMsgSameSaid : Prop := fnExactMsgSameRow.holds Try.pinned (OpenSpec.ofChange fnExactMsgSameSpec)

/-- ITS FALSE NEIGHBOUR: 'it returns false'. Refute it at one input. -/
def fnExactMsgSameWrong : ChangeSpec := { name := "fnExactMsgSame", fn := fun _ => fun
  | [d1, d2] => { results := [.lit (.bool false)], args := [d1, d2] }
  | _ => none }
def FnExactMsgSameWrongFalsely : Prop := fnExactMsgSameRow.holds Try.pinned (OpenSpec.ofChange fnExactMsgSameWrong)

/-- 'laws.FnExactSaidOf': WHATEVER THE INPUT: true; the input reads as it did. -/
def fnExactSaidOfSpec : ChangeSpec := { name := "fnExactSaidOf", fn := fun _ => fun
  | [d1, d2] => { results := [.lit (.bool true)], args := [d1, d2] }
  | _ => none }
def fnExactSaidOfRow : OpenClaim := { program := "ytcpjfipnagidgaa", sum := "7ad4b09f588c8160531f387a8dc2ba21f456651273d8594477d493ddf8734f20", func := "loop.example/g00448/laws.FnExactSaidOf", spec := "fnExactSaidOf", apart := false }
def FnExactSaidOfSaid : Prop := fnExactSaidOfRow.holds Try.pinned (OpenSpec.ofChange fnExactSaidOfSpec)

/-- ITS FALSE NEIGHBOUR: 'it returns false'. Refute it at one input. -/
def fnExactSaidOfWrong : ChangeSpec := { name := "fnExactSaidOf", fn := fun _ => fun
  | [d1, d2] => { results := [.lit (.bool false)], args := [d1, d2] }
  | _ => none }
def FnExactSaidOfWrongFalsely : Prop := fnExactSaidOfRow.holds Try.pinned (OpenSpec.ofChange fnExactSaidOfWrong)

/-- 'laws.FnExactHonest': WHATEVER THE INPUT: true; the input reads as it did. -/
def fnExactHonestSpec : ChangeSpec := { name := "fnExactHonest", fn := fun _ => fun
  | [d] => { results := [.lit (.bool true)], args := [d] }
  | _ => none }
def fnExactHonestRow : OpenClaim := { program := "ytcpjfipnagidgaa", sum := "7ad4b09f588c8160531f387a8dc2ba21f456651273d8594477d493ddf8734f20", func := "loop.example/g00448/laws.FnExactHonest", spec := "fnExactHonest", apart := false }
def FnExactHonestSaid : Prop := fnExactHonestRow.holds Try.pinned (OpenSpec.ofChange fnExactHonestSpec)

/-- ITS FALSE NEIGHBOUR: 'it returns false'. Refute it at one input. -/
def fnExactHonestWrong : ChangeSpec := { name := "fnExactHonest", fn := fun _ => fun
  | [d] => { results := [.lit (.bool false)], args := [d] }
  | _ => none }
def FnExactHonestWrongFalsely : Prop := fnExactHonestRow.holds Try.pinned (OpenSpec.ofChange fnExactHonestWrong)

/- THE SECOND FORM. 'bulk': how many values and letters a reading holds, each counted each time it is reached (what is shared counts as often as it is met; a slice's spare places count too). A statement '..UptoSaid' is the law's where the arguments, and the package variables that the reading takes, are together of bulk at most 1048576: NARROWER than '..Said'. Prove '..Said' where nothing that the law and all that it calls make is longer than what came in: it says more and counts as full. Else prove '..UptoSaid'. A law counts once. -/
mutual
def uptoBulk {H : Type} : DataW H → Nat
  | .lit (.string bytes) => bytes.length + 1
  | .lit _ => 1
  | .nil => 1
  | .ptr d => uptoBulk d + 1
  | .slice elems spare => uptoBulkAll elems + uptoBulkAll spare + 1
  | .agg parts => uptoBulkAll parts + 1
  | .iface _ d => uptoBulk d + 1
  | .map entries => uptoBulkEntries entries + 1
  | .held _ => 1
def uptoBulkAll {H : Type} : List (DataW H) → Nat
  | [] => 0
  | d :: r => uptoBulk d + uptoBulkAll r
def uptoBulkEntries {H : Type} : List (Lit × DataW H) → Nat
  | [] => 0
  | x :: r => uptoBulkEntry x + uptoBulkEntries r
def uptoBulkEntry {H : Type} : Lit × DataW H → Nat
  | (.string bytes, d) => bytes.length + uptoBulk d + 1
  | (_, d) => uptoBulk d + 1
 end
def uptoSmall : (H : Type) → List (DataW H) → Bool := fun _ ds => decide (uptoBulkAll ds ≤ 1048576)
def OpenSpec.upto (s : _root_.Go.ChangeSpec) : _root_.Go.OpenSpec := { _root_.Go.OpenSpec.ofChange s with cond := some uptoSmall }

/-- 'laws.FnExactAppend', WHERE WHAT IT READS IS OF BULK AT MOST 1048576: true; the input reads as it did. -/
def fnExactAppendUptoRow : OpenClaim := { program := "ytcpjfipnagidgaa", sum := "7ad4b09f588c8160531f387a8dc2ba21f456651273d8594477d493ddf8734f20", func := "loop.example/g00448/laws.FnExactAppend", spec := "fnExactAppend", apart := false, narrowed := true }
def FnExactAppendUptoSaid : Prop := fnExactAppendUptoRow.holds Try.pinned (OpenSpec.upto fnExactAppendSpec)

/-- 'laws.FnExactFallTo', WHERE WHAT IT READS IS OF BULK AT MOST 1048576: true; the input reads as it did. -/
def fnExactFallToUptoRow : OpenClaim := { program := "ytcpjfipnagidgaa", sum := "7ad4b09f588c8160531f387a8dc2ba21f456651273d8594477d493ddf8734f20", func := "loop.example/g00448/laws.FnExactFallTo", spec := "fnExactFallTo", apart := false, narrowed := true }
def FnExactFallToUptoSaid : Prop := fnExactFallToUptoRow.holds Try.pinned (OpenSpec.upto fnExactFallToSpec)

/-- 'laws.FnExactSigned', WHERE WHAT IT READS IS OF BULK AT MOST 1048576: true; the input reads as it did. -/
def fnExactSignedUptoRow : OpenClaim := { program := "ytcpjfipnagidgaa", sum := "7ad4b09f588c8160531f387a8dc2ba21f456651273d8594477d493ddf8734f20", func := "loop.example/g00448/laws.FnExactSigned", spec := "fnExactSigned", apart := false, narrowed := true }
def FnExactSignedUptoSaid : Prop := fnExactSignedUptoRow.holds Try.pinned (OpenSpec.upto fnExactSignedSpec)

/-- 'laws.FnDisks', WHERE WHAT IT READS IS OF BULK AT MOST 1048576: true; the input reads as it did. -/
def fnDisksUptoRow : OpenClaim := { program := "ytcpjfipnagidgaa", sum := "7ad4b09f588c8160531f387a8dc2ba21f456651273d8594477d493ddf8734f20", func := "loop.example/g00448/laws.FnDisks", spec := "fnDisks", apart := false, narrowed := true }
def FnDisksUptoSaid : Prop := fnDisksUptoRow.holds Try.pinned (OpenSpec.upto fnDisksSpec)

/-- 'laws.FnExactMsgSame', WHERE WHAT IT READS IS OF BULK AT MOST 1048576: true; the input reads as it did. -/
def fnExactMsgSameUptoRow : OpenClaim := { program := "ytcpjfipnagidgaa", sum := "7ad4b09f588c8160531f387a8dc2ba21f456651273d8594477d493ddf8734f20", func := "loop.example/g00448/laws.FnExactMsgSame", spec := "fnExactMsgSame", apart := false, narrowed := true }
def FnExactMsgSameUptoSaid : Prop := fnExactMsgSameUptoRow.holds Try.pinned (OpenSpec.upto fnExactMsgSameSpec)

/-- 'laws.FnExactSaidOf', WHERE WHAT IT READS IS OF BULK AT MOST 1048576: true; the input reads as it did. -/
def fnExactSaidOfUptoRow : OpenClaim := { program := "ytcpjfipnagidgaa", sum := "7ad4b09f588c8160531f387a8dc2ba21f456651273d8594477d493ddf8734f20", func := "loop.example/g00448/laws.FnExactSaidOf", spec := "fnExactSaidOf", apart := false, narrowed := true }
def FnExactSaidOfUptoSaid : Prop := fnExactSaidOfUptoRow.holds Try.pinned (OpenSpec.upto fnExactSaidOfSpec)

/-- 'laws.FnExactHonest', WHERE WHAT IT READS IS OF BULK AT MOST 1048576: true; the input reads as it did. -/
def fnExactHonestUptoRow : OpenClaim := { program := "ytcpjfipnagidgaa", sum := "7ad4b09f588c8160531f387a8dc2ba21f456651273d8594477d493ddf8734f20", func := "loop.example/g00448/laws.FnExactHonest", spec := "fnExactHonest", apart := false, narrowed := true }
def FnExactHonestUptoSaid : Prop := fnExactHonestUptoRow.holds Try.pinned (OpenSpec.upto fnExactHonestSpec)

end Rows
end Go.Proofs.Ytcpjfipnagidgaa
