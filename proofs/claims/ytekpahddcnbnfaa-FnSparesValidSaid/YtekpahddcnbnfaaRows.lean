/-
  No cell of these rows narrows 'for every input' (looked for: loops, veiled, ifaces, maps, wideKeys, modest, calm, conditions, laid).
  DERIVED. THE GIVEN ROWS OF THIS SEAT. 7 by the template 'for every input the law returns true; each argument reads behind the call as it read before'; 0 by the template 'total and deterministic' (their statements: YtekpahddcnbnfaaTotals.lean).
  GIVEN WITH THE SEED: the statements are not yours to turn. If you find one false, say at which input.
  Laid BY PROGRAM, IN A SANDBOX (cutbox-rows.mjs): the forced cells as the released guide's own fill.sh prints them over the translation 7de3f386548ab2e2… (all of the seat's roots in one cut). By AI agents, Wed Nov 11 2026. No macro, syntax, notation, axiom, sorry.
-/
import Derived.Test.YtekpahddcnbnfaaChecked
import GoSem.Claim
import GoSem.ClaimJoined
import GoSem.ClaimMapViews
import Derived.JoinedTies
import Derived.KernelRfl
namespace Go.Proofs.Ytekpahddcnbnfaa
/- THE CELL 'sum', in the pinned program and in every row, IS THE sha256 OF THE DUMP (.gsa) THAT YtekpahddcnbnfaaProg.lean LOADS. Nothing in Lean hashes anything: it is a label: what it is worth is what the hold of that sum in a sandbox is worth. -/
noncomputable def Try.pinned : Pinned := { name := "ytekpahddcnbnfaa", sum := "7de3f386548ab2e231c1b9aeb9423962b37d11546824e21e367a662572cbe3b9", checked := Try.checked }
namespace Rows
def none {H : Type} : Left H := { results := [], args := [] }

/-- 'laws.FnExactSparesValid': WHATEVER THE INPUT: true; the input reads as it did. -/
def fnExactSparesValidSpec : ChangeSpec := { name := "fnExactSparesValid", fn := fun _ => fun
  | [d] => { results := [.lit (.bool true)], args := [d] }
  | _ => none }
def fnExactSparesValidRow : OpenClaim := { program := "ytekpahddcnbnfaa", sum := "7de3f386548ab2e231c1b9aeb9423962b37d11546824e21e367a662572cbe3b9", func := "loop.example/blockstack/laws.FnExactSparesValid", spec := "fnExactSparesValid", apart := false }
def FnExactSparesValidSaid : Prop := fnExactSparesValidRow.holds Try.pinned (OpenSpec.ofChange fnExactSparesValidSpec)

/-- ITS FALSE NEIGHBOUR: 'it returns false'. Refute it at one input. -/
def fnExactSparesValidWrong : ChangeSpec := { name := "fnExactSparesValid", fn := fun _ => fun
  | [d] => { results := [.lit (.bool false)], args := [d] }
  | _ => none }
def FnExactSparesValidWrongFalsely : Prop := fnExactSparesValidRow.holds Try.pinned (OpenSpec.ofChange fnExactSparesValidWrong)

/-- 'laws.FnExactHomeOf': WHATEVER THE INPUT: true; the input reads as it did. -/
def fnExactHomeOfSpec : ChangeSpec := { name := "fnExactHomeOf", fn := fun _ => fun
  | [d1, d2] => { results := [.lit (.bool true)], args := [d1, d2] }
  | _ => none }
def fnExactHomeOfRow : OpenClaim := { program := "ytekpahddcnbnfaa", sum := "7de3f386548ab2e231c1b9aeb9423962b37d11546824e21e367a662572cbe3b9", func := "loop.example/blockstack/laws.FnExactHomeOf", spec := "fnExactHomeOf", apart := false }
def FnExactHomeOfSaid : Prop := fnExactHomeOfRow.holds Try.pinned (OpenSpec.ofChange fnExactHomeOfSpec)

/-- ITS FALSE NEIGHBOUR: 'it returns false'. Refute it at one input. -/
def fnExactHomeOfWrong : ChangeSpec := { name := "fnExactHomeOf", fn := fun _ => fun
  | [d1, d2] => { results := [.lit (.bool false)], args := [d1, d2] }
  | _ => none }
def FnExactHomeOfWrongFalsely : Prop := fnExactHomeOfRow.holds Try.pinned (OpenSpec.ofChange fnExactHomeOfWrong)

/-- 'laws.FnSparesValid': WHATEVER THE INPUT: true; the input reads as it did. -/
def fnSparesValidSpec : ChangeSpec := { name := "fnSparesValid", fn := fun _ => fun
  | [d] => { results := [.lit (.bool true)], args := [d] }
  | _ => none }
def fnSparesValidRow : OpenClaim := { program := "ytekpahddcnbnfaa", sum := "7de3f386548ab2e231c1b9aeb9423962b37d11546824e21e367a662572cbe3b9", func := "loop.example/blockstack/laws.FnSparesValid", spec := "fnSparesValid", apart := false }
def FnSparesValidSaid : Prop := fnSparesValidRow.holds Try.pinned (OpenSpec.ofChange fnSparesValidSpec)

/-- ITS FALSE NEIGHBOUR: 'it returns false'. Refute it at one input. -/
def fnSparesValidWrong : ChangeSpec := { name := "fnSparesValid", fn := fun _ => fun
  | [d] => { results := [.lit (.bool false)], args := [d] }
  | _ => none }
def FnSparesValidWrongFalsely : Prop := fnSparesValidRow.holds Try.pinned (OpenSpec.ofChange fnSparesValidWrong)

/-- 'laws.FnHomeOf': WHATEVER THE INPUT: true; the input reads as it did. -/
def fnHomeOfSpec : ChangeSpec := { name := "fnHomeOf", fn := fun _ => fun
  | [d] => { results := [.lit (.bool true)], args := [d] }
  | _ => none }
def fnHomeOfRow : OpenClaim := { program := "ytekpahddcnbnfaa", sum := "7de3f386548ab2e231c1b9aeb9423962b37d11546824e21e367a662572cbe3b9", func := "loop.example/blockstack/laws.FnHomeOf", spec := "fnHomeOf", apart := false }
def FnHomeOfSaid : Prop := fnHomeOfRow.holds Try.pinned (OpenSpec.ofChange fnHomeOfSpec)

/-- ITS FALSE NEIGHBOUR: 'it returns false'. Refute it at one input. -/
def fnHomeOfWrong : ChangeSpec := { name := "fnHomeOf", fn := fun _ => fun
  | [d] => { results := [.lit (.bool false)], args := [d] }
  | _ => none }
def FnHomeOfWrongFalsely : Prop := fnHomeOfRow.holds Try.pinned (OpenSpec.ofChange fnHomeOfWrong)

/-- 'laws.FnExactMarkBad': WHATEVER THE INPUT: true; the input reads as it did. -/
def fnExactMarkBadSpec : ChangeSpec := { name := "fnExactMarkBad", fn := fun _ => fun
  | [d1, d2] => { results := [.lit (.bool true)], args := [d1, d2] }
  | _ => none }
def fnExactMarkBadRow : OpenClaim := { program := "ytekpahddcnbnfaa", sum := "7de3f386548ab2e231c1b9aeb9423962b37d11546824e21e367a662572cbe3b9", func := "loop.example/blockstack/laws.FnExactMarkBad", spec := "fnExactMarkBad", apart := false }
def FnExactMarkBadSaid : Prop := fnExactMarkBadRow.holds Try.pinned (OpenSpec.ofChange fnExactMarkBadSpec)

/-- ITS FALSE NEIGHBOUR: 'it returns false'. Refute it at one input. -/
def fnExactMarkBadWrong : ChangeSpec := { name := "fnExactMarkBad", fn := fun _ => fun
  | [d1, d2] => { results := [.lit (.bool false)], args := [d1, d2] }
  | _ => none }
def FnExactMarkBadWrongFalsely : Prop := fnExactMarkBadRow.holds Try.pinned (OpenSpec.ofChange fnExactMarkBadWrong)

/-- 'laws.FnSparesUp': WHATEVER THE INPUT: true; the input reads as it did. -/
def fnSparesUpSpec : ChangeSpec := { name := "fnSparesUp", fn := fun _ => fun
  | [d] => { results := [.lit (.bool true)], args := [d] }
  | _ => none }
def fnSparesUpRow : OpenClaim := { program := "ytekpahddcnbnfaa", sum := "7de3f386548ab2e231c1b9aeb9423962b37d11546824e21e367a662572cbe3b9", func := "loop.example/blockstack/laws.FnSparesUp", spec := "fnSparesUp", apart := false }
def FnSparesUpSaid : Prop := fnSparesUpRow.holds Try.pinned (OpenSpec.ofChange fnSparesUpSpec)

/-- ITS FALSE NEIGHBOUR: 'it returns false'. Refute it at one input. -/
def fnSparesUpWrong : ChangeSpec := { name := "fnSparesUp", fn := fun _ => fun
  | [d] => { results := [.lit (.bool false)], args := [d] }
  | _ => none }
def FnSparesUpWrongFalsely : Prop := fnSparesUpRow.holds Try.pinned (OpenSpec.ofChange fnSparesUpWrong)

/-- 'laws.FnMarkBad': WHATEVER THE INPUT: true; the input reads as it did. -/
def fnMarkBadSpec : ChangeSpec := { name := "fnMarkBad", fn := fun _ => fun
  | [d] => { results := [.lit (.bool true)], args := [d] }
  | _ => none }
def fnMarkBadRow : OpenClaim := { program := "ytekpahddcnbnfaa", sum := "7de3f386548ab2e231c1b9aeb9423962b37d11546824e21e367a662572cbe3b9", func := "loop.example/blockstack/laws.FnMarkBad", spec := "fnMarkBad", apart := false }
def FnMarkBadSaid : Prop := fnMarkBadRow.holds Try.pinned (OpenSpec.ofChange fnMarkBadSpec)

/-- ITS FALSE NEIGHBOUR: 'it returns false'. Refute it at one input. -/
def fnMarkBadWrong : ChangeSpec := { name := "fnMarkBad", fn := fun _ => fun
  | [d] => { results := [.lit (.bool false)], args := [d] }
  | _ => none }
def FnMarkBadWrongFalsely : Prop := fnMarkBadRow.holds Try.pinned (OpenSpec.ofChange fnMarkBadWrong)

/- THE SECOND FORM. 'bulk': how many values and letters a reading holds, each counted each time it is reached (what is shared counts as often as it is met; a slice's spare places count too). A statement '..UptoSaid' is the law's where the arguments, and the package variables that the reading takes, are together of bulk at most 1048576: NARROWER than '..Said'. Prove '..Said' where nothing that the law and all that it calls make is longer than what came in: it says more and counts as full. Else prove '..UptoSaid'. A law counts once. -/
mutual
def uptoBulk {H : Type} : DataW H → Nat
  | .lit (.string bytes) => bytes.length + 1
  | .lit _ => 1
  | .nil => 1
  | .ptr d => uptoBulk d + 1
  | .slice elems spare => uptoBulkAll elems + uptoBulkAll spare + 1
  | .agg parts => uptoBulkAll parts + 1
  | .iface _ d => uptoBulk d + 1
  | .map entries => uptoBulkEntries entries + 1
  | .held _ => 1
def uptoBulkAll {H : Type} : List (DataW H) → Nat
  | [] => 0
  | d :: r => uptoBulk d + uptoBulkAll r
def uptoBulkEntries {H : Type} : List (Lit × DataW H) → Nat
  | [] => 0
  | x :: r => uptoBulkEntry x + uptoBulkEntries r
def uptoBulkEntry {H : Type} : Lit × DataW H → Nat
  | (.string bytes, d) => bytes.length + uptoBulk d + 1
  | (_, d) => uptoBulk d + 1
 end
def uptoSmall : (H : Type) → List (DataW H) → Bool := fun _ ds => decide (uptoBulkAll ds ≤ 1048576)
def OpenSpec.upto (s : _root_.Go.ChangeSpec) : _root_.Go.OpenSpec := { _root_.Go.OpenSpec.ofChange s with cond := some uptoSmall }

/-- 'laws.FnExactSparesValid', WHERE WHAT IT READS IS OF BULK AT MOST 1048576: true; the input reads as it did. -/
def fnExactSparesValidUptoRow : OpenClaim := { program := "ytekpahddcnbnfaa", sum := "7de3f386548ab2e231c1b9aeb9423962b37d11546824e21e367a662572cbe3b9", func := "loop.example/blockstack/laws.FnExactSparesValid", spec := "fnExactSparesValid", apart := false, narrowed := true }
def FnExactSparesValidUptoSaid : Prop := fnExactSparesValidUptoRow.holds Try.pinned (OpenSpec.upto fnExactSparesValidSpec)

/-- 'laws.FnExactHomeOf', WHERE WHAT IT READS IS OF BULK AT MOST 1048576: true; the input reads as it did. -/
def fnExactHomeOfUptoRow : OpenClaim := { program := "ytekpahddcnbnfaa", sum := "7de3f386548ab2e231c1b9aeb9423962b37d11546824e21e367a662572cbe3b9", func := "loop.example/blockstack/laws.FnExactHomeOf", spec := "fnExactHomeOf", apart := false, narrowed := true }
def FnExactHomeOfUptoSaid : Prop := fnExactHomeOfUptoRow.holds Try.pinned (OpenSpec.upto fnExactHomeOfSpec)

/-- 'laws.FnSparesValid', WHERE WHAT IT READS IS OF BULK AT MOST 1048576: true; the input reads as it did. -/
def fnSparesValidUptoRow : OpenClaim := { program := "ytekpahddcnbnfaa", sum := "7de3f386548ab2e231c1b9aeb9423962b37d11546824e21e367a662572cbe3b9", func := "loop.example/blockstack/laws.FnSparesValid", spec := "fnSparesValid", apart := false, narrowed := true }
def FnSparesValidUptoSaid : Prop := fnSparesValidUptoRow.holds Try.pinned (OpenSpec.upto fnSparesValidSpec)

/-- 'laws.FnHomeOf', WHERE WHAT IT READS IS OF BULK AT MOST 1048576: true; the input reads as it did. -/
def fnHomeOfUptoRow : OpenClaim := { program := "ytekpahddcnbnfaa", sum := "7de3f386548ab2e231c1b9aeb9423962b37d11546824e21e367a662572cbe3b9", func := "loop.example/blockstack/laws.FnHomeOf", spec := "fnHomeOf", apart := false, narrowed := true }
def FnHomeOfUptoSaid : Prop := fnHomeOfUptoRow.holds Try.pinned (OpenSpec.upto fnHomeOfSpec)

/-- 'laws.FnExactMarkBad', WHERE WHAT IT READS IS OF BULK AT MOST 1048576: true; the input reads as it did. -/
def fnExactMarkBadUptoRow : OpenClaim := { program := "ytekpahddcnbnfaa", sum := "7de3f386548ab2e231c1b9aeb9423962b37d11546824e21e367a662572cbe3b9", func := "loop.example/blockstack/laws.FnExactMarkBad", spec := "fnExactMarkBad", apart := false, narrowed := true }
def FnExactMarkBadUptoSaid : Prop := fnExactMarkBadUptoRow.holds Try.pinned (OpenSpec.upto fnExactMarkBadSpec)

/-- 'laws.FnSparesUp', WHERE WHAT IT READS IS OF BULK AT MOST 1048576: true; the input reads as it did. -/
def fnSparesUpUptoRow : OpenClaim := { program := "ytekpahddcnbnfaa", sum := "7de3f386548ab2e231c1b9aeb9423962b37d11546824e21e367a662572cbe3b9", func := "loop.example/blockstack/laws.FnSparesUp", spec := "fnSparesUp", apart := false, narrowed := true }
def FnSparesUpUptoSaid : Prop := fnSparesUpUptoRow.holds Try.pinned (OpenSpec.upto fnSparesUpSpec)

/-- 'laws.FnMarkBad', WHERE WHAT IT READS IS OF BULK AT MOST 1048576: true; the input reads as it did. -/
def fnMarkBadUptoRow : OpenClaim := { program := "ytekpahddcnbnfaa", sum := "7de3f386548ab2e231c1b9aeb9423962b37d11546824e21e367a662572cbe3b9", func := "loop.example/blockstack/laws.FnMarkBad", spec := "fnMarkBad", apart := false, narrowed := true }
def FnMarkBadUptoSaid : Prop := fnMarkBadUptoRow.holds Try.pinned (OpenSpec.upto fnMarkBadSpec)

end Rows
end Go.Proofs.Ytekpahddcnbnfaa
