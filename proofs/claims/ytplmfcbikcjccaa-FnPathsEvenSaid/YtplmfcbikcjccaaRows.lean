/-
  No cell of these rows narrows 'for every input' (looked for: loops, veiled, ifaces, maps, wideKeys, modest, calm, conditions, laid).
  DERIVED. THE GIVEN ROWS OF THIS SEAT. 9 by the template 'for every input the law returns true; each argument reads behind the call as it read before'; 0 by the template 'total and deterministic' (their statements: YtplmfcbikcjccaaTotals.lean).
  GIVEN WITH THE SEED: the statements are not yours to turn. If you find one false, say at which input.
  Laid BY PROGRAM, IN A SANDBOX (cutbox-rows.mjs): the forced cells as the released guide's own fill.sh prints them over the translation 1420468b5850c404… (all of the seat's roots in one cut). By AI agents, Wed Nov 11 2026. No macro, syntax, notation, axiom, sorry.
-/
import Derived.Test.YtplmfcbikcjccaaChecked
import GoSem.Claim
import GoSem.ClaimJoined
import GoSem.ClaimMapViews
import Derived.JoinedTies
import Derived.KernelRfl
namespace Go.Proofs.Ytplmfcbikcjccaa
/- THE CELL 'sum', in the pinned program and in every row, IS THE sha256 OF THE DUMP (.gsa) THAT YtplmfcbikcjccaaProg.lean LOADS. Nothing in Lean hashes anything: it is a label: what it is worth is what the hold of that sum in a sandbox is worth. -/
noncomputable def Try.pinned : Pinned := { name := "ytplmfcbikcjccaa", sum := "1420468b5850c404cda0c7c160ade80e3e4a21cd6bc17b22f2b083e955cdee13", checked := Try.checked }
namespace Rows
def none {H : Type} : Left H := { results := [], args := [] }

/-- 'laws.FnExactPathsValid': WHATEVER THE INPUT: true; the input reads as it did. -/
def fnExactPathsValidSpec : ChangeSpec := { name := "fnExactPathsValid", fn := fun _ => fun
  | [d] => { results := [.lit (.bool true)], args := [d] }
  | _ => none }
def fnExactPathsValidRow : OpenClaim := { program := "ytplmfcbikcjccaa", sum := "1420468b5850c404cda0c7c160ade80e3e4a21cd6bc17b22f2b083e955cdee13", func := "loop.example/blockstack/laws.FnExactPathsValid", spec := "fnExactPathsValid", unfollowed := true, recurses := true, apart := false }
def FnExactPathsValidSaid : Prop := fnExactPathsValidRow.holds Try.pinned (OpenSpec.ofChange fnExactPathsValidSpec)

/-- ITS FALSE NEIGHBOUR: 'it returns false'. Refute it at one input. -/
def fnExactPathsValidWrong : ChangeSpec := { name := "fnExactPathsValid", fn := fun _ => fun
  | [d] => { results := [.lit (.bool false)], args := [d] }
  | _ => none }
def FnExactPathsValidWrongFalsely : Prop := fnExactPathsValidRow.holds Try.pinned (OpenSpec.ofChange fnExactPathsValidWrong)

/-- 'laws.FnExactChoosePath': WHATEVER THE INPUT: true; the input reads as it did. -/
def fnExactChoosePathSpec : ChangeSpec := { name := "fnExactChoosePath", fn := fun _ => fun
  | [d] => { results := [.lit (.bool true)], args := [d] }
  | _ => none }
def fnExactChoosePathRow : OpenClaim := { program := "ytplmfcbikcjccaa", sum := "1420468b5850c404cda0c7c160ade80e3e4a21cd6bc17b22f2b083e955cdee13", func := "loop.example/blockstack/laws.FnExactChoosePath", spec := "fnExactChoosePath", unfollowed := true, recurses := true, apart := false }
def FnExactChoosePathSaid : Prop := fnExactChoosePathRow.holds Try.pinned (OpenSpec.ofChange fnExactChoosePathSpec)

/-- ITS FALSE NEIGHBOUR: 'it returns false'. Refute it at one input. -/
def fnExactChoosePathWrong : ChangeSpec := { name := "fnExactChoosePath", fn := fun _ => fun
  | [d] => { results := [.lit (.bool false)], args := [d] }
  | _ => none }
def FnExactChoosePathWrongFalsely : Prop := fnExactChoosePathRow.holds Try.pinned (OpenSpec.ofChange fnExactChoosePathWrong)

/-- 'laws.FnPathsValid': WHATEVER THE INPUT: true; the input reads as it did. -/
def fnPathsValidSpec : ChangeSpec := { name := "fnPathsValid", fn := fun _ => fun
  | [d] => { results := [.lit (.bool true)], args := [d] }
  | _ => none }
def fnPathsValidRow : OpenClaim := { program := "ytplmfcbikcjccaa", sum := "1420468b5850c404cda0c7c160ade80e3e4a21cd6bc17b22f2b083e955cdee13", func := "loop.example/blockstack/laws.FnPathsValid", spec := "fnPathsValid", unfollowed := true, recurses := true, apart := false }
def FnPathsValidSaid : Prop := fnPathsValidRow.holds Try.pinned (OpenSpec.ofChange fnPathsValidSpec)

/-- ITS FALSE NEIGHBOUR: 'it returns false'. Refute it at one input. -/
def fnPathsValidWrong : ChangeSpec := { name := "fnPathsValid", fn := fun _ => fun
  | [d] => { results := [.lit (.bool false)], args := [d] }
  | _ => none }
def FnPathsValidWrongFalsely : Prop := fnPathsValidRow.holds Try.pinned (OpenSpec.ofChange fnPathsValidWrong)

/-- 'laws.FnChoosePath': WHATEVER THE INPUT: true; the input reads as it did. -/
def fnChoosePathSpec : ChangeSpec := { name := "fnChoosePath", fn := fun _ => fun
  | [d] => { results := [.lit (.bool true)], args := [d] }
  | _ => none }
def fnChoosePathRow : OpenClaim := { program := "ytplmfcbikcjccaa", sum := "1420468b5850c404cda0c7c160ade80e3e4a21cd6bc17b22f2b083e955cdee13", func := "loop.example/blockstack/laws.FnChoosePath", spec := "fnChoosePath", unfollowed := true, recurses := true, apart := false }
def FnChoosePathSaid : Prop := fnChoosePathRow.holds Try.pinned (OpenSpec.ofChange fnChoosePathSpec)

/-- ITS FALSE NEIGHBOUR: 'it returns false'. Refute it at one input. -/
def fnChoosePathWrong : ChangeSpec := { name := "fnChoosePath", fn := fun _ => fun
  | [d] => { results := [.lit (.bool false)], args := [d] }
  | _ => none }
def FnChoosePathWrongFalsely : Prop := fnChoosePathRow.holds Try.pinned (OpenSpec.ofChange fnChoosePathWrong)

/-- 'laws.FnExactSendOn': WHATEVER THE INPUT: true; the input reads as it did. -/
def fnExactSendOnSpec : ChangeSpec := { name := "fnExactSendOn", fn := fun _ => fun
  | [d1, d2] => { results := [.lit (.bool true)], args := [d1, d2] }
  | _ => none }
def fnExactSendOnRow : OpenClaim := { program := "ytplmfcbikcjccaa", sum := "1420468b5850c404cda0c7c160ade80e3e4a21cd6bc17b22f2b083e955cdee13", func := "loop.example/blockstack/laws.FnExactSendOn", spec := "fnExactSendOn", unfollowed := true, recurses := true, apart := false }
def FnExactSendOnSaid : Prop := fnExactSendOnRow.holds Try.pinned (OpenSpec.ofChange fnExactSendOnSpec)

/-- ITS FALSE NEIGHBOUR: 'it returns false'. Refute it at one input. -/
def fnExactSendOnWrong : ChangeSpec := { name := "fnExactSendOn", fn := fun _ => fun
  | [d1, d2] => { results := [.lit (.bool false)], args := [d1, d2] }
  | _ => none }
def FnExactSendOnWrongFalsely : Prop := fnExactSendOnRow.holds Try.pinned (OpenSpec.ofChange fnExactSendOnWrong)

/-- 'laws.FnExactFailPath': WHATEVER THE INPUT: true; the input reads as it did. -/
def fnExactFailPathSpec : ChangeSpec := { name := "fnExactFailPath", fn := fun _ => fun
  | [d1, d2] => { results := [.lit (.bool true)], args := [d1, d2] }
  | _ => none }
def fnExactFailPathRow : OpenClaim := { program := "ytplmfcbikcjccaa", sum := "1420468b5850c404cda0c7c160ade80e3e4a21cd6bc17b22f2b083e955cdee13", func := "loop.example/blockstack/laws.FnExactFailPath", spec := "fnExactFailPath", unfollowed := true, recurses := true, apart := false }
def FnExactFailPathSaid : Prop := fnExactFailPathRow.holds Try.pinned (OpenSpec.ofChange fnExactFailPathSpec)

/-- ITS FALSE NEIGHBOUR: 'it returns false'. Refute it at one input. -/
def fnExactFailPathWrong : ChangeSpec := { name := "fnExactFailPath", fn := fun _ => fun
  | [d1, d2] => { results := [.lit (.bool false)], args := [d1, d2] }
  | _ => none }
def FnExactFailPathWrongFalsely : Prop := fnExactFailPathRow.holds Try.pinned (OpenSpec.ofChange fnExactFailPathWrong)

/-- 'laws.FnPathsEven': WHATEVER THE INPUT: true; the input reads as it did. -/
def fnPathsEvenSpec : ChangeSpec := { name := "fnPathsEven", fn := fun _ => fun
  | [d] => { results := [.lit (.bool true)], args := [d] }
  | _ => none }
def fnPathsEvenRow : OpenClaim := { program := "ytplmfcbikcjccaa", sum := "1420468b5850c404cda0c7c160ade80e3e4a21cd6bc17b22f2b083e955cdee13", func := "loop.example/blockstack/laws.FnPathsEven", spec := "fnPathsEven", unfollowed := true, recurses := true, apart := false }
def FnPathsEvenSaid : Prop := fnPathsEvenRow.holds Try.pinned (OpenSpec.ofChange fnPathsEvenSpec)

/-- ITS FALSE NEIGHBOUR: 'it returns false'. Refute it at one input. -/
def fnPathsEvenWrong : ChangeSpec := { name := "fnPathsEven", fn := fun _ => fun
  | [d] => { results := [.lit (.bool false)], args := [d] }
  | _ => none }
def FnPathsEvenWrongFalsely : Prop := fnPathsEvenRow.holds Try.pinned (OpenSpec.ofChange fnPathsEvenWrong)

/-- 'laws.FnSendOn': WHATEVER THE INPUT: true; the input reads as it did. -/
def fnSendOnSpec : ChangeSpec := { name := "fnSendOn", fn := fun _ => fun
  | [d] => { results := [.lit (.bool true)], args := [d] }
  | _ => none }
def fnSendOnRow : OpenClaim := { program := "ytplmfcbikcjccaa", sum := "1420468b5850c404cda0c7c160ade80e3e4a21cd6bc17b22f2b083e955cdee13", func := "loop.example/blockstack/laws.FnSendOn", spec := "fnSendOn", unfollowed := true, recurses := true, apart := false }
def FnSendOnSaid : Prop := fnSendOnRow.holds Try.pinned (OpenSpec.ofChange fnSendOnSpec)

/-- ITS FALSE NEIGHBOUR: 'it returns false'. Refute it at one input. -/
def fnSendOnWrong : ChangeSpec := { name := "fnSendOn", fn := fun _ => fun
  | [d] => { results := [.lit (.bool false)], args := [d] }
  | _ => none }
def FnSendOnWrongFalsely : Prop := fnSendOnRow.holds Try.pinned (OpenSpec.ofChange fnSendOnWrong)

/-- 'laws.FnFailPath': WHATEVER THE INPUT: true; the input reads as it did. -/
def fnFailPathSpec : ChangeSpec := { name := "fnFailPath", fn := fun _ => fun
  | [d] => { results := [.lit (.bool true)], args := [d] }
  | _ => none }
def fnFailPathRow : OpenClaim := { program := "ytplmfcbikcjccaa", sum := "1420468b5850c404cda0c7c160ade80e3e4a21cd6bc17b22f2b083e955cdee13", func := "loop.example/blockstack/laws.FnFailPath", spec := "fnFailPath", unfollowed := true, recurses := true, apart := false }
def FnFailPathSaid : Prop := fnFailPathRow.holds Try.pinned (OpenSpec.ofChange fnFailPathSpec)

/-- ITS FALSE NEIGHBOUR: 'it returns false'. Refute it at one input. -/
def fnFailPathWrong : ChangeSpec := { name := "fnFailPath", fn := fun _ => fun
  | [d] => { results := [.lit (.bool false)], args := [d] }
  | _ => none }
def FnFailPathWrongFalsely : Prop := fnFailPathRow.holds Try.pinned (OpenSpec.ofChange fnFailPathWrong)

/- THE SECOND FORM. 'bulk': how many values and letters a reading holds, each counted each time it is reached (what is shared counts as often as it is met; a slice's spare places count too). A statement '..UptoSaid' is the law's where the arguments, and the package variables that the reading takes, are together of bulk at most 1048576: NARROWER than '..Said'. Prove '..Said' where nothing that the law and all that it calls make is longer than what came in: it says more and counts as full. Else prove '..UptoSaid'. A law counts once. -/
mutual
def uptoBulk {H : Type} : DataW H → Nat
  | .lit (.string bytes) => bytes.length + 1
  | .lit _ => 1
  | .nil => 1
  | .ptr d => uptoBulk d + 1
  | .slice elems spare => uptoBulkAll elems + uptoBulkAll spare + 1
  | .agg parts => uptoBulkAll parts + 1
  | .iface _ d => uptoBulk d + 1
  | .map entries => uptoBulkEntries entries + 1
  | .held _ => 1
def uptoBulkAll {H : Type} : List (DataW H) → Nat
  | [] => 0
  | d :: r => uptoBulk d + uptoBulkAll r
def uptoBulkEntries {H : Type} : List (Lit × DataW H) → Nat
  | [] => 0
  | x :: r => uptoBulkEntry x + uptoBulkEntries r
def uptoBulkEntry {H : Type} : Lit × DataW H → Nat
  | (.string bytes, d) => bytes.length + uptoBulk d + 1
  | (_, d) => uptoBulk d + 1
 end
def uptoSmall : (H : Type) → List (DataW H) → Bool := fun _ ds => decide (uptoBulkAll ds ≤ 1048576)
def OpenSpec.upto (s : _root_.Go.ChangeSpec) : _root_.Go.OpenSpec := { _root_.Go.OpenSpec.ofChange s with cond := some uptoSmall }

/-- 'laws.FnExactPathsValid', WHERE WHAT IT READS IS OF BULK AT MOST 1048576: true; the input reads as it did. -/
def fnExactPathsValidUptoRow : OpenClaim := { program := "ytplmfcbikcjccaa", sum := "1420468b5850c404cda0c7c160ade80e3e4a21cd6bc17b22f2b083e955cdee13", func := "loop.example/blockstack/laws.FnExactPathsValid", spec := "fnExactPathsValid", unfollowed := true, recurses := true, apart := false, narrowed := true }
def FnExactPathsValidUptoSaid : Prop := fnExactPathsValidUptoRow.holds Try.pinned (OpenSpec.upto fnExactPathsValidSpec)

/-- 'laws.FnExactChoosePath', WHERE WHAT IT READS IS OF BULK AT MOST 1048576: true; the input reads as it did. -/
def fnExactChoosePathUptoRow : OpenClaim := { program := "ytplmfcbikcjccaa", sum := "1420468b5850c404cda0c7c160ade80e3e4a21cd6bc17b22f2b083e955cdee13", func := "loop.example/blockstack/laws.FnExactChoosePath", spec := "fnExactChoosePath", unfollowed := true, recurses := true, apart := false, narrowed := true }
def FnExactChoosePathUptoSaid : Prop := fnExactChoosePathUptoRow.holds Try.pinned (OpenSpec.upto fnExactChoosePathSpec)

/-- 'laws.FnPathsValid', WHERE WHAT IT READS IS OF BULK AT MOST 1048576: true; the input reads as it did. -/
def fnPathsValidUptoRow : OpenClaim := { program := "ytplmfcbikcjccaa", sum := "1420468b5850c404cda0c7c160ade80e3e4a21cd6bc17b22f2b083e955cdee13", func := "loop.example/blockstack/laws.FnPathsValid", spec := "fnPathsValid", unfollowed := true, recurses := true, apart := false, narrowed := true }
def FnPathsValidUptoSaid : Prop := fnPathsValidUptoRow.holds Try.pinned (OpenSpec.upto fnPathsValidSpec)

/-- 'laws.FnChoosePath', WHERE WHAT IT READS IS OF BULK AT MOST 1048576: true; the input reads as it did. -/
def fnChoosePathUptoRow : OpenClaim := { program := "ytplmfcbikcjccaa", sum := "1420468b5850c404cda0c7c160ade80e3e4a21cd6bc17b22f2b083e955cdee13", func := "loop.example/blockstack/laws.FnChoosePath", spec := "fnChoosePath", unfollowed := true, recurses := true, apart := false, narrowed := true }
def FnChoosePathUptoSaid : Prop := fnChoosePathUptoRow.holds Try.pinned (OpenSpec.upto fnChoosePathSpec)

/-- 'laws.FnExactSendOn', WHERE WHAT IT READS IS OF BULK AT MOST 1048576: true; the input reads as it did. -/
def fnExactSendOnUptoRow : OpenClaim := { program := "ytplmfcbikcjccaa", sum := "1420468b5850c404cda0c7c160ade80e3e4a21cd6bc17b22f2b083e955cdee13", func := "loop.example/blockstack/laws.FnExactSendOn", spec := "fnExactSendOn", unfollowed := true, recurses := true, apart := false, narrowed := true }
def FnExactSendOnUptoSaid : Prop := fnExactSendOnUptoRow.holds Try.pinned (OpenSpec.upto fnExactSendOnSpec)

/-- 'laws.FnExactFailPath', WHERE WHAT IT READS IS OF BULK AT MOST 1048576: true; the input reads as it did. -/
def fnExactFailPathUptoRow : OpenClaim := { program := "ytplmfcbikcjccaa", sum := "1420468b5850c404cda0c7c160ade80e3e4a21cd6bc17b22f2b083e955cdee13", func := "loop.example/blockstack/laws.FnExactFailPath", spec := "fnExactFailPath", unfollowed := true, recurses := true, apart := false, narrowed := true }
def FnExactFailPathUptoSaid : Prop := fnExactFailPathUptoRow.holds Try.pinned (OpenSpec.upto fnExactFailPathSpec)

/-- 'laws.FnPathsEven', WHERE WHAT IT READS IS OF BULK AT MOST 1048576: true; the input reads as it did. -/
def fnPathsEvenUptoRow : OpenClaim := { program := "ytplmfcbikcjccaa", sum := "1420468b5850c404cda0c7c160ade80e3e4a21cd6bc17b22f2b083e955cdee13", func := "loop.example/blockstack/laws.FnPathsEven", spec := "fnPathsEven", unfollowed := true, recurses := true, apart := false, narrowed := true }
def FnPathsEvenUptoSaid : Prop := fnPathsEvenUptoRow.holds Try.pinned (OpenSpec.upto fnPathsEvenSpec)

/-- 'laws.FnSendOn', WHERE WHAT IT READS IS OF BULK AT MOST 1048576: true; the input reads as it did. -/
def fnSendOnUptoRow : OpenClaim := { program := "ytplmfcbikcjccaa", sum := "1420468b5850c404cda0c7c160ade80e3e4a21cd6bc17b22f2b083e955cdee13", func := "loop.example/blockstack/laws.FnSendOn", spec := "fnSendOn", unfollowed := true, recurses := true, apart := false, narrowed := true }
def FnSendOnUptoSaid : Prop := fnSendOnUptoRow.holds Try.pinned (OpenSpec.upto fnSendOnSpec)

/-- 'laws.FnFailPath', WHERE WHAT IT READS IS OF BULK AT MOST 1048576: true; the input reads as it did. -/
def fnFailPathUptoRow : OpenClaim := { program := "ytplmfcbikcjccaa", sum := "1420468b5850c404cda0c7c160ade80e3e4a21cd6bc17b22f2b083e955cdee13", func := "loop.example/blockstack/laws.FnFailPath", spec := "fnFailPath", unfollowed := true, recurses := true, apart := false, narrowed := true }
def FnFailPathUptoSaid : Prop := fnFailPathUptoRow.holds Try.pinned (OpenSpec.upto fnFailPathSpec)

end Rows
end Go.Proofs.Ytplmfcbikcjccaa
