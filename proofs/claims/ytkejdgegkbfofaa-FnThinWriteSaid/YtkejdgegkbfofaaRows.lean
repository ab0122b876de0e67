/-
  No cell of these rows narrows 'for every input' (looked for: loops, veiled, ifaces, maps, wideKeys, modest, calm, conditions, laid).
  DERIVED. THE GIVEN ROWS OF THIS SEAT. 4 by the template 'for every input the law returns true; each argument reads behind the call as it read before'; 0 by the template 'total and deterministic' (their statements: YtkejdgegkbfofaaTotals.lean).
  GIVEN WITH THE SEED: the statements are not yours to turn. If you find one false, say at which input.
  Laid BY PROGRAM, IN A SANDBOX (cutbox-rows.mjs): the forced cells as the released guide's own fill.sh prints them over the translation 0df3975d25940a83… (all of the seat's roots in one cut). By AI agents, Wed Nov 11 2026. No macro, syntax, notation, axiom, sorry.
-/
import Derived.Test.YtkejdgegkbfofaaChecked
import GoSem.Claim
import GoSem.ClaimJoined
import GoSem.ClaimMapViews
import Derived.JoinedTies
import Derived.KernelRfl
namespace Go.Proofs.Ytkejdgegkbfofaa
/- THE CELL 'sum', in the pinned program and in every row, IS THE sha256 OF THE DUMP (.gsa) THAT YtkejdgegkbfofaaProg.lean LOADS. Nothing in Lean hashes anything: it is a label: what it is worth is what the hold of that sum in a sandbox is worth. -/
noncomputable def Try.pinned : Pinned := { name := "ytkejdgegkbfofaa", sum := "0df3975d25940a83a8d212e0c0d4e3eec4b78f665819e4462162d261c97c2774", checked := Try.checked }
namespace Rows
def none {H : Type} : Left H := { results := [], args := [] }

/-- 'laws.FnExactThinWrite': WHATEVER THE INPUT: true; the input reads as it did. -/
def fnExactThinWriteSpec : ChangeSpec := { name := "fnExactThinWrite", fn := fun _ => fun
  | [d1, d2, d3] => { results := [.lit (.bool true)], args := [d1, d2, d3] }
  | _ => none }
def fnExactThinWriteRow : OpenClaim := { program := "ytkejdgegkbfofaa", sum := "0df3975d25940a83a8d212e0c0d4e3eec4b78f665819e4462162d261c97c2774", func := "loop.example/blockstack/laws.FnExactThinWrite", spec := "fnExactThinWrite", apart := false }
def FnExactThinWriteSaid : Prop := fnExactThinWriteRow.holds Try.pinned (OpenSpec.ofChange fnExactThinWriteSpec)

/-- ITS FALSE NEIGHBOUR: 'it returns false'. Refute it at one input. -/
def fnExactThinWriteWrong : ChangeSpec := { name := "fnExactThinWrite", fn := fun _ => fun
  | [d1, d2, d3] => { results := [.lit (.bool false)], args := [d1, d2, d3] }
  | _ => none }
def FnExactThinWriteWrongFalsely : Prop := fnExactThinWriteRow.holds Try.pinned (OpenSpec.ofChange fnExactThinWriteWrong)

/-- 'laws.FnThinView': WHATEVER THE INPUT: true; the input reads as it did. -/
def fnThinViewSpec : ChangeSpec := { name := "fnThinView", fn := fun _ => fun
  | [d] => { results := [.lit (.bool true)], args := [d] }
  | _ => none }
def fnThinViewRow : OpenClaim := { program := "ytkejdgegkbfofaa", sum := "0df3975d25940a83a8d212e0c0d4e3eec4b78f665819e4462162d261c97c2774", func := "loop.example/blockstack/laws.FnThinView", spec := "fnThinView", apart := false }
def FnThinViewSaid : Prop := fnThinViewRow.holds Try.pinned (OpenSpec.ofChange fnThinViewSpec)

/-- ITS FALSE NEIGHBOUR: 'it returns false'. Refute it at one input. -/
def fnThinViewWrong : ChangeSpec := { name := "fnThinView", fn := fun _ => fun
  | [d] => { results := [.lit (.bool false)], args := [d] }
  | _ => none }
def FnThinViewWrongFalsely : Prop := fnThinViewRow.holds Try.pinned (OpenSpec.ofChange fnThinViewWrong)

/-- 'laws.FnThinTrim': WHATEVER THE INPUT: true; the input reads as it did. -/
def fnThinTrimSpec : ChangeSpec := { name := "fnThinTrim", fn := fun _ => fun
  | [d] => { results := [.lit (.bool true)], args := [d] }
  | _ => none }
def fnThinTrimRow : OpenClaim := { program := "ytkejdgegkbfofaa", sum := "0df3975d25940a83a8d212e0c0d4e3eec4b78f665819e4462162d261c97c2774", func := "loop.example/blockstack/laws.FnThinTrim", spec := "fnThinTrim", apart := false }
def FnThinTrimSaid : Prop := fnThinTrimRow.holds Try.pinned (OpenSpec.ofChange fnThinTrimSpec)

/-- ITS FALSE NEIGHBOUR: 'it returns false'. Refute it at one input. -/
def fnThinTrimWrong : ChangeSpec := { name := "fnThinTrim", fn := fun _ => fun
  | [d] => { results := [.lit (.bool false)], args := [d] }
  | _ => none }
def FnThinTrimWrongFalsely : Prop := fnThinTrimRow.holds Try.pinned (OpenSpec.ofChange fnThinTrimWrong)

/-- 'laws.FnThinWrite': WHATEVER THE INPUT: true; the input reads as it did. -/
def fnThinWriteSpec : ChangeSpec := { name := "fnThinWrite", fn := fun _ => fun
  | [d] => { results := [.lit (.bool true)], args := [d] }
  | _ => none }
def fnThinWriteRow : OpenClaim := { program := "ytkejdgegkbfofaa", sum := "0df3975d25940a83a8d212e0c0d4e3eec4b78f665819e4462162d261c97c2774", func := "loop.example/blockstack/laws.FnThinWrite", spec := "fnThinWrite", apart := false }
def FnThinWriteSaid : Prop := fnThinWriteRow.holds Try.pinned (OpenSpec.ofChange fnThinWriteSpec)

/-- ITS FALSE NEIGHBOUR: 'it returns false'. Refute it at one input. -/
def fnThinWriteWrong : ChangeSpec := { name := "fnThinWrite", fn := fun _ => fun
  | [d] => { results := [.lit (.bool false)], args := [d] }
  | _ => none }
def FnThinWriteWrongFalsely : Prop := fnThinWriteRow.holds Try.pinned (OpenSpec.ofChange fnThinWriteWrong)

/- THE SECOND FORM. 'bulk': how many values and letters a reading holds, each counted each time it is reached (what is shared counts as often as it is met; a slice's spare places count too). A statement '..UptoSaid' is the law's where the arguments, and the package variables that the reading takes, are together of bulk at most 1048576: NARROWER than '..Said'. Prove '..Said' where nothing that the law and all that it calls make is longer than what came in: it says more and counts as full. Else prove '..UptoSaid'. A law counts once. -/
mutual
def uptoBulk {H : Type} : DataW H → Nat
  | .lit (.string bytes) => bytes.length + 1
  | .lit _ => 1
  | .nil => 1
  | .ptr d => uptoBulk d + 1
  | .slice elems spare => uptoBulkAll elems + uptoBulkAll spare + 1
  | .agg parts => uptoBulkAll parts + 1
  | .iface _ d => uptoBulk d + 1
  | .map entries => uptoBulkEntries entries + 1
  | .held _ => 1
def uptoBulkAll {H : Type} : List (DataW H) → Nat
  | [] => 0
  | d :: r => uptoBulk d + uptoBulkAll r
def uptoBulkEntries {H : Type} : List (Lit × DataW H) → Nat
  | [] => 0
  | x :: r => uptoBulkEntry x + uptoBulkEntries r
def uptoBulkEntry {H : Type} : Lit × DataW H → Nat
  | (.string bytes, d) => bytes.length + uptoBulk d + 1
  | (_, d) => uptoBulk d + 1
 end
def uptoSmall : (H : Type) → List (DataW H) → Bool := fun _ ds => decide (uptoBulkAll ds ≤ 1048576)
def OpenSpec.upto (s : _root_.Go.ChangeSpec) : _root_.Go.OpenSpec := { _root_.Go.OpenSpec.ofChange s with cond := some uptoSmall }

/-- 'laws.FnExactThinWrite', WHERE WHAT IT READS IS OF BULK AT MOST 1048576: true; the input reads as it did. -/
def fnExactThinWriteUptoRow : OpenClaim := { program := "ytkejdgegkbfofaa", sum := "0df3975d25940a83a8d212e0c0d4e3eec4b78f665819e4462162d261c97c2774", func := "loop.example/blockstack/laws.FnExactThinWrite", spec := "fnExactThinWrite", apart := false, narrowed := true }
def FnExactThinWriteUptoSaid : Prop := fnExactThinWriteUptoRow.holds Try.pinned (OpenSpec.upto fnExactThinWriteSpec)

/-- 'laws.FnThinView', WHERE WHAT IT READS IS OF BULK AT MOST 1048576: true; the input reads as it did. -/
def fnThinViewUptoRow : OpenClaim := { program := "ytkejdgegkbfofaa", sum := "0df3975d25940a83a8d212e0c0d4e3eec4b78f665819e4462162d261c97c2774", func := "loop.example/blockstack/laws.FnThinView", spec := "fnThinView", apart := false, narrowed := true }
def FnThinViewUptoSaid : Prop := fnThinViewUptoRow.holds Try.pinned (OpenSpec.upto fnThinViewSpec)

/-- 'laws.FnThinTrim', WHERE WHAT IT READS IS OF BULK AT MOST 1048576: true; the input reads as it did. -/
def fnThinTrimUptoRow : OpenClaim := { program := "ytkejdgegkbfofaa", sum := "0df3975d25940a83a8d212e0c0d4e3eec4b78f665819e4462162d261c97c2774", func := "loop.example/blockstack/laws.FnThinTrim", spec := "fnThinTrim", apart := false, narrowed := true }
def FnThinTrimUptoSaid : Prop := fnThinTrimUptoRow.holds Try.pinned (OpenSpec.upto fnThinTrimSpec)

/-- 'laws.FnThinWrite', WHERE WHAT IT READS IS OF BULK AT MOST 1048576: true; the input reads as it did. -/
def fnThinWriteUptoRow : OpenClaim := { program := "ytkejdgegkbfofaa", sum := "0df3975d25940a83a8d212e0c0d4e3eec4b78f665819e4462162d261c97c2774", func := "loop.example/blockstack/laws.FnThinWrite", spec := "fnThinWrite", apart := false, narrowed := true }
def FnThinWriteUptoSaid : Prop := fnThinWriteUptoRow.holds Try.pinned (OpenSpec.upto fnThinWriteSpec)

end Rows
end Go.Proofs.Ytkejdgegkbfofaa
