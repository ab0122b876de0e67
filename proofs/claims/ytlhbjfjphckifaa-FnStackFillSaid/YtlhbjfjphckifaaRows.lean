/-
  No cell of these rows narrows 'for every input' (looked for: loops, veiled, ifaces, maps, wideKeys, modest, calm, conditions, laid).
  DERIVED. THE GIVEN ROWS OF THIS SEAT. 14 by the template 'for every input the law returns true; each argument reads behind the call as it read before'; 0 by the template 'total and deterministic' (their statements: YtlhbjfjphckifaaTotals.lean).
  GIVEN WITH THE SEED: the statements are not yours to turn. If you find one false, say at which input.
  Laid BY PROGRAM, IN A SANDBOX (cutbox-rows.mjs): the forced cells as the released guide's own fill.sh prints them over the translation 7ba1b9ea0ed44e19… (all of the seat's roots in one cut). By AI agents, Wed Nov 11 2026. No macro, syntax, notation, axiom, sorry.
-/
import Derived.Test.YtlhbjfjphckifaaChecked
import GoSem.Claim
import GoSem.ClaimJoined
import GoSem.ClaimMapViews
import Derived.JoinedTies
import Derived.KernelRfl
namespace Go.Proofs.Ytlhbjfjphckifaa
/- THE CELL 'sum', in the pinned program and in every row, IS THE sha256 OF THE DUMP (.gsa) THAT YtlhbjfjphckifaaProg.lean LOADS. Nothing in Lean hashes anything: it is a label: what it is worth is what the hold of that sum in a sandbox is worth. -/
noncomputable def Try.pinned : Pinned := { name := "ytlhbjfjphckifaa", sum := "7ba1b9ea0ed44e196942e9ffb42c3695ab9bbb9ee7b0cb881ae74bfe9993858d", checked := Try.checked }
namespace Rows
def none {H : Type} : Left H := { results := [], args := [] }

/-- 'laws.FnExactStackSync': WHATEVER THE INPUT: true; the input reads as it did. -/
def fnExactStackSyncSpec : ChangeSpec := { name := "fnExactStackSync", fn := fun _ => fun
  | [d] => { results := [.lit (.bool true)], args := [d] }
  | _ => none }
def fnExactStackSyncRow : OpenClaim := { program := "ytlhbjfjphckifaa", sum := "7ba1b9ea0ed44e196942e9ffb42c3695ab9bbb9ee7b0cb881ae74bfe9993858d", func := "loop.example/blockstack/laws.FnExactStackSync", spec := "fnExactStackSync", unfollowed := true, recurses := true, apart := false }
def FnExactStackSyncSaid : Prop := fnExactStackSyncRow.holds Try.pinned (OpenSpec.ofChange fnExactStackSyncSpec)

/-- ITS FALSE NEIGHBOUR: 'it returns false'. Refute it at one input. -/
def fnExactStackSyncWrong : ChangeSpec := { name := "fnExactStackSync", fn := fun _ => fun
  | [d] => { results := [.lit (.bool false)], args := [d] }
  | _ => none }
def FnExactStackSyncWrongFalsely : Prop := fnExactStackSyncRow.holds Try.pinned (OpenSpec.ofChange fnExactStackSyncWrong)

/-- 'laws.FnExactStackWrite': WHATEVER THE INPUT: true; the input reads as it did. -/
def fnExactStackWriteSpec : ChangeSpec := { name := "fnExactStackWrite", fn := fun _ => fun
  | [d1, d2, d3, d4] => { results := [.lit (.bool true)], args := [d1, d2, d3, d4] }
  | _ => none }
def fnExactStackWriteRow : OpenClaim := { program := "ytlhbjfjphckifaa", sum := "7ba1b9ea0ed44e196942e9ffb42c3695ab9bbb9ee7b0cb881ae74bfe9993858d", func := "loop.example/blockstack/laws.FnExactStackWrite", spec := "fnExactStackWrite", unfollowed := true, recurses := true, apart := false }
def FnExactStackWriteSaid : Prop := fnExactStackWriteRow.holds Try.pinned (OpenSpec.ofChange fnExactStackWriteSpec)

/-- ITS FALSE NEIGHBOUR: 'it returns false'. Refute it at one input. -/
def fnExactStackWriteWrong : ChangeSpec := { name := "fnExactStackWrite", fn := fun _ => fun
  | [d1, d2, d3, d4] => { results := [.lit (.bool false)], args := [d1, d2, d3, d4] }
  | _ => none }
def FnExactStackWriteWrongFalsely : Prop := fnExactStackWriteRow.holds Try.pinned (OpenSpec.ofChange fnExactStackWriteWrong)

/-- 'laws.FnExactStackRead': WHATEVER THE INPUT: true; the input reads as it did. -/
def fnExactStackReadSpec : ChangeSpec := { name := "fnExactStackRead", fn := fun _ => fun
  | [d1, d2, d3] => { results := [.lit (.bool true)], args := [d1, d2, d3] }
  | _ => none }
def fnExactStackReadRow : OpenClaim := { program := "ytlhbjfjphckifaa", sum := "7ba1b9ea0ed44e196942e9ffb42c3695ab9bbb9ee7b0cb881ae74bfe9993858d", func := "loop.example/blockstack/laws.FnExactStackRead", spec := "fnExactStackRead", unfollowed := true, recurses := true, apart := false }
def FnExactStackReadSaid : Prop := fnExactStackReadRow.holds Try.pinned (OpenSpec.ofChange fnExactStackReadSpec)

/-- ITS FALSE NEIGHBOUR: 'it returns false'. Refute it at one input. -/
def fnExactStackReadWrong : ChangeSpec := { name := "fnExactStackRead", fn := fun _ => fun
  | [d1, d2, d3] => { results := [.lit (.bool false)], args := [d1, d2, d3] }
  | _ => none }
def FnExactStackReadWrongFalsely : Prop := fnExactStackReadRow.holds Try.pinned (OpenSpec.ofChange fnExactStackReadWrong)

/-- 'laws.FnStackValid': WHATEVER THE INPUT: true; the input reads as it did. -/
def fnStackValidSpec : ChangeSpec := { name := "fnStackValid", fn := fun _ => fun
  | [d] => { results := [.lit (.bool true)], args := [d] }
  | _ => none }
def fnStackValidRow : OpenClaim := { program := "ytlhbjfjphckifaa", sum := "7ba1b9ea0ed44e196942e9ffb42c3695ab9bbb9ee7b0cb881ae74bfe9993858d", func := "loop.example/blockstack/laws.FnStackValid", spec := "fnStackValid", unfollowed := true, recurses := true, apart := false }
def FnStackValidSaid : Prop := fnStackValidRow.holds Try.pinned (OpenSpec.ofChange fnStackValidSpec)

/-- ITS FALSE NEIGHBOUR: 'it returns false'. Refute it at one input. -/
def fnStackValidWrong : ChangeSpec := { name := "fnStackValid", fn := fun _ => fun
  | [d] => { results := [.lit (.bool false)], args := [d] }
  | _ => none }
def FnStackValidWrongFalsely : Prop := fnStackValidRow.holds Try.pinned (OpenSpec.ofChange fnStackValidWrong)

/-- 'laws.FnExactStackValid': WHATEVER THE INPUT: true; the input reads as it did. -/
def fnExactStackValidSpec : ChangeSpec := { name := "fnExactStackValid", fn := fun _ => fun
  | [d] => { results := [.lit (.bool true)], args := [d] }
  | _ => none }
def fnExactStackValidRow : OpenClaim := { program := "ytlhbjfjphckifaa", sum := "7ba1b9ea0ed44e196942e9ffb42c3695ab9bbb9ee7b0cb881ae74bfe9993858d", func := "loop.example/blockstack/laws.FnExactStackValid", spec := "fnExactStackValid", unfollowed := true, recurses := true, apart := false }
def FnExactStackValidSaid : Prop := fnExactStackValidRow.holds Try.pinned (OpenSpec.ofChange fnExactStackValidSpec)

/-- ITS FALSE NEIGHBOUR: 'it returns false'. Refute it at one input. -/
def fnExactStackValidWrong : ChangeSpec := { name := "fnExactStackValid", fn := fun _ => fun
  | [d] => { results := [.lit (.bool false)], args := [d] }
  | _ => none }
def FnExactStackValidWrongFalsely : Prop := fnExactStackValidRow.holds Try.pinned (OpenSpec.ofChange fnExactStackValidWrong)

/-- 'laws.FnStackCrash': WHATEVER THE INPUT: true; the input reads as it did. -/
def fnStackCrashSpec : ChangeSpec := { name := "fnStackCrash", fn := fun _ => fun
  | [d] => { results := [.lit (.bool true)], args := [d] }
  | _ => none }
def fnStackCrashRow : OpenClaim := { program := "ytlhbjfjphckifaa", sum := "7ba1b9ea0ed44e196942e9ffb42c3695ab9bbb9ee7b0cb881ae74bfe9993858d", func := "loop.example/blockstack/laws.FnStackCrash", spec := "fnStackCrash", unfollowed := true, recurses := true, apart := false }
def FnStackCrashSaid : Prop := fnStackCrashRow.holds Try.pinned (OpenSpec.ofChange fnStackCrashSpec)

/-- ITS FALSE NEIGHBOUR: 'it returns false'. Refute it at one input. -/
def fnStackCrashWrong : ChangeSpec := { name := "fnStackCrash", fn := fun _ => fun
  | [d] => { results := [.lit (.bool false)], args := [d] }
  | _ => none }
def FnStackCrashWrongFalsely : Prop := fnStackCrashRow.holds Try.pinned (OpenSpec.ofChange fnStackCrashWrong)

/-- 'laws.FnPartView': WHATEVER THE INPUT: true; the input reads as it did. -/
def fnPartViewSpec : ChangeSpec := { name := "fnPartView", fn := fun _ => fun
  | [d] => { results := [.lit (.bool true)], args := [d] }
  | _ => none }
def fnPartViewRow : OpenClaim := { program := "ytlhbjfjphckifaa", sum := "7ba1b9ea0ed44e196942e9ffb42c3695ab9bbb9ee7b0cb881ae74bfe9993858d", func := "loop.example/blockstack/laws.FnPartView", spec := "fnPartView", unfollowed := true, recurses := true, apart := false }
def FnPartViewSaid : Prop := fnPartViewRow.holds Try.pinned (OpenSpec.ofChange fnPartViewSpec)

/-- ITS FALSE NEIGHBOUR: 'it returns false'. Refute it at one input. -/
def fnPartViewWrong : ChangeSpec := { name := "fnPartView", fn := fun _ => fun
  | [d] => { results := [.lit (.bool false)], args := [d] }
  | _ => none }
def FnPartViewWrongFalsely : Prop := fnPartViewRow.holds Try.pinned (OpenSpec.ofChange fnPartViewWrong)

/-- 'laws.FnStackSync': WHATEVER THE INPUT: true; the input reads as it did. -/
def fnStackSyncSpec : ChangeSpec := { name := "fnStackSync", fn := fun _ => fun
  | [d] => { results := [.lit (.bool true)], args := [d] }
  | _ => none }
def fnStackSyncRow : OpenClaim := { program := "ytlhbjfjphckifaa", sum := "7ba1b9ea0ed44e196942e9ffb42c3695ab9bbb9ee7b0cb881ae74bfe9993858d", func := "loop.example/blockstack/laws.FnStackSync", spec := "fnStackSync", unfollowed := true, recurses := true, apart := false }
def FnStackSyncSaid : Prop := fnStackSyncRow.holds Try.pinned (OpenSpec.ofChange fnStackSyncSpec)

/-- ITS FALSE NEIGHBOUR: 'it returns false'. Refute it at one input. -/
def fnStackSyncWrong : ChangeSpec := { name := "fnStackSync", fn := fun _ => fun
  | [d] => { results := [.lit (.bool false)], args := [d] }
  | _ => none }
def FnStackSyncWrongFalsely : Prop := fnStackSyncRow.holds Try.pinned (OpenSpec.ofChange fnStackSyncWrong)

/-- 'laws.FnStackFill': WHATEVER THE INPUT: true; the input reads as it did. -/
def fnStackFillSpec : ChangeSpec := { name := "fnStackFill", fn := fun _ => fun
  | [d] => { results := [.lit (.bool true)], args := [d] }
  | _ => none }
def fnStackFillRow : OpenClaim := { program := "ytlhbjfjphckifaa", sum := "7ba1b9ea0ed44e196942e9ffb42c3695ab9bbb9ee7b0cb881ae74bfe9993858d", func := "loop.example/blockstack/laws.FnStackFill", spec := "fnStackFill", unfollowed := true, recurses := true, apart := false }
def FnStackFillSaid : Prop := fnStackFillRow.holds Try.pinned (OpenSpec.ofChange fnStackFillSpec)

/-- ITS FALSE NEIGHBOUR: 'it returns false'. Refute it at one input. -/
def fnStackFillWrong : ChangeSpec := { name := "fnStackFill", fn := fun _ => fun
  | [d] => { results := [.lit (.bool false)], args := [d] }
  | _ => none }
def FnStackFillWrongFalsely : Prop := fnStackFillRow.holds Try.pinned (OpenSpec.ofChange fnStackFillWrong)

/-- 'laws.FnExactPartView': WHATEVER THE INPUT: true; the input reads as it did. -/
def fnExactPartViewSpec : ChangeSpec := { name := "fnExactPartView", fn := fun _ => fun
  | [d1, d2] => { results := [.lit (.bool true)], args := [d1, d2] }
  | _ => none }
def fnExactPartViewRow : OpenClaim := { program := "ytlhbjfjphckifaa", sum := "7ba1b9ea0ed44e196942e9ffb42c3695ab9bbb9ee7b0cb881ae74bfe9993858d", func := "loop.example/blockstack/laws.FnExactPartView", spec := "fnExactPartView", unfollowed := true, recurses := true, apart := false }
def FnExactPartViewSaid : Prop := fnExactPartViewRow.holds Try.pinned (OpenSpec.ofChange fnExactPartViewSpec)

/-- ITS FALSE NEIGHBOUR: 'it returns false'. Refute it at one input. -/
def fnExactPartViewWrong : ChangeSpec := { name := "fnExactPartView", fn := fun _ => fun
  | [d1, d2] => { results := [.lit (.bool false)], args := [d1, d2] }
  | _ => none }
def FnExactPartViewWrongFalsely : Prop := fnExactPartViewRow.holds Try.pinned (OpenSpec.ofChange fnExactPartViewWrong)

/-- 'laws.FnStackLost': WHATEVER THE INPUT: true; the input reads as it did. -/
def fnStackLostSpec : ChangeSpec := { name := "fnStackLost", fn := fun _ => fun
  | [d] => { results := [.lit (.bool true)], args := [d] }
  | _ => none }
def fnStackLostRow : OpenClaim := { program := "ytlhbjfjphckifaa", sum := "7ba1b9ea0ed44e196942e9ffb42c3695ab9bbb9ee7b0cb881ae74bfe9993858d", func := "loop.example/blockstack/laws.FnStackLost", spec := "fnStackLost", unfollowed := true, recurses := true, apart := false }
def FnStackLostSaid : Prop := fnStackLostRow.holds Try.pinned (OpenSpec.ofChange fnStackLostSpec)

/-- ITS FALSE NEIGHBOUR: 'it returns false'. Refute it at one input. -/
def fnStackLostWrong : ChangeSpec := { name := "fnStackLost", fn := fun _ => fun
  | [d] => { results := [.lit (.bool false)], args := [d] }
  | _ => none }
def FnStackLostWrongFalsely : Prop := fnStackLostRow.holds Try.pinned (OpenSpec.ofChange fnStackLostWrong)

/-- 'laws.FnExactStackCrash': WHATEVER THE INPUT: true; the input reads as it did. -/
def fnExactStackCrashSpec : ChangeSpec := { name := "fnExactStackCrash", fn := fun _ => fun
  | [d] => { results := [.lit (.bool true)], args := [d] }
  | _ => none }
def fnExactStackCrashRow : OpenClaim := { program := "ytlhbjfjphckifaa", sum := "7ba1b9ea0ed44e196942e9ffb42c3695ab9bbb9ee7b0cb881ae74bfe9993858d", func := "loop.example/blockstack/laws.FnExactStackCrash", spec := "fnExactStackCrash", unfollowed := true, recurses := true, apart := false }
def FnExactStackCrashSaid : Prop := fnExactStackCrashRow.holds Try.pinned (OpenSpec.ofChange fnExactStackCrashSpec)

/-- ITS FALSE NEIGHBOUR: 'it returns false'. Refute it at one input. -/
def fnExactStackCrashWrong : ChangeSpec := { name := "fnExactStackCrash", fn := fun _ => fun
  | [d] => { results := [.lit (.bool false)], args := [d] }
  | _ => none }
def FnExactStackCrashWrongFalsely : Prop := fnExactStackCrashRow.holds Try.pinned (OpenSpec.ofChange fnExactStackCrashWrong)

/-- 'laws.FnStackRead': WHATEVER THE INPUT: true; the input reads as it did. -/
def fnStackReadSpec : ChangeSpec := { name := "fnStackRead", fn := fun _ => fun
  | [d] => { results := [.lit (.bool true)], args := [d] }
  | _ => none }
def fnStackReadRow : OpenClaim := { program := "ytlhbjfjphckifaa", sum := "7ba1b9ea0ed44e196942e9ffb42c3695ab9bbb9ee7b0cb881ae74bfe9993858d", func := "loop.example/blockstack/laws.FnStackRead", spec := "fnStackRead", unfollowed := true, recurses := true, apart := false }
def FnStackReadSaid : Prop := fnStackReadRow.holds Try.pinned (OpenSpec.ofChange fnStackReadSpec)

/-- ITS FALSE NEIGHBOUR: 'it returns false'. Refute it at one input. -/
def fnStackReadWrong : ChangeSpec := { name := "fnStackRead", fn := fun _ => fun
  | [d] => { results := [.lit (.bool false)], args := [d] }
  | _ => none }
def FnStackReadWrongFalsely : Prop := fnStackReadRow.holds Try.pinned (OpenSpec.ofChange fnStackReadWrong)

/-- 'laws.FnStackWrite': WHATEVER THE INPUT: true; the input reads as it did. -/
def fnStackWriteSpec : ChangeSpec := { name := "fnStackWrite", fn := fun _ => fun
  | [d] => { results := [.lit (.bool true)], args := [d] }
  | _ => none }
def fnStackWriteRow : OpenClaim := { program := "ytlhbjfjphckifaa", sum := "7ba1b9ea0ed44e196942e9ffb42c3695ab9bbb9ee7b0cb881ae74bfe9993858d", func := "loop.example/blockstack/laws.FnStackWrite", spec := "fnStackWrite", unfollowed := true, recurses := true, apart := false }
def FnStackWriteSaid : Prop := fnStackWriteRow.holds Try.pinned (OpenSpec.ofChange fnStackWriteSpec)

/-- ITS FALSE NEIGHBOUR: 'it returns false'. Refute it at one input. -/
def fnStackWriteWrong : ChangeSpec := { name := "fnStackWrite", fn := fun _ => fun
  | [d] => { results := [.lit (.bool false)], args := [d] }
  | _ => none }
def FnStackWriteWrongFalsely : Prop := fnStackWriteRow.holds Try.pinned (OpenSpec.ofChange fnStackWriteWrong)

/- THE SECOND FORM. 'bulk': how many values and letters a reading holds, each counted each time it is reached (what is shared counts as often as it is met; a slice's spare places count too). A statement '..UptoSaid' is the law's where the arguments, and the package variables that the reading takes, are together of bulk at most 1048576: NARROWER than '..Said'. Prove '..Said' where nothing that the law and all that it calls make is longer than what came in: it says more and counts as full. Else prove '..UptoSaid'. A law counts once. -/
mutual
def uptoBulk {H : Type} : DataW H → Nat
  | .lit (.string bytes) => bytes.length + 1
  | .lit _ => 1
  | .nil => 1
  | .ptr d => uptoBulk d + 1
  | .slice elems spare => uptoBulkAll elems + uptoBulkAll spare + 1
  | .agg parts => uptoBulkAll parts + 1
  | .iface _ d => uptoBulk d + 1
  | .map entries => uptoBulkEntries entries + 1
  | .held _ => 1
def uptoBulkAll {H : Type} : List (DataW H) → Nat
  | [] => 0
  | d :: r => uptoBulk d + uptoBulkAll r
def uptoBulkEntries {H : Type} : List (Lit × DataW H) → Nat
  | [] => 0
  | x :: r => uptoBulkEntry x + uptoBulkEntries r
def uptoBulkEntry {H : Type} : Lit × DataW H → Nat
  | (.string bytes, d) => bytes.length + uptoBulk d + 1
  | (_, d) => uptoBulk d + 1
 end
def uptoSmall : (H : Type) → List (DataW H) → Bool := fun _ ds => decide (uptoBulkAll ds ≤ 1048576)
def OpenSpec.upto (s : _root_.Go.ChangeSpec) : _root_.Go.OpenSpec := { _root_.Go.OpenSpec.ofChange s with cond := some uptoSmall }

/-- 'laws.FnExactStackSync', WHERE WHAT IT READS IS OF BULK AT MOST 1048576: true; the input reads as it did. -/
def fnExactStackSyncUptoRow : OpenClaim := { program := "ytlhbjfjphckifaa", sum := "7ba1b9ea0ed44e196942e9ffb42c3695ab9bbb9ee7b0cb881ae74bfe9993858d", func := "loop.example/blockstack/laws.FnExactStackSync", spec := "fnExactStackSync", unfollowed := true, recurses := true, apart := false, narrowed := true }
def FnExactStackSyncUptoSaid : Prop := fnExactStackSyncUptoRow.holds Try.pinned (OpenSpec.upto fnExactStackSyncSpec)

/-- 'laws.FnExactStackWrite', WHERE WHAT IT READS IS OF BULK AT MOST 1048576: true; the input reads as it did. -/
def fnExactStackWriteUptoRow : OpenClaim := { program := "ytlhbjfjphckifaa", sum := "7ba1b9ea0ed44e196942e9ffb42c3695ab9bbb9ee7b0cb881ae74bfe9993858d", func := "loop.example/blockstack/laws.FnExactStackWrite", spec := "fnExactStackWrite", unfollowed := true, recurses := true, apart := false, narrowed := true }
def FnExactStackWriteUptoSaid : Prop := fnExactStackWriteUptoRow.holds Try.pinned (OpenSpec.upto fnExactStackWriteSpec)

/-- 'laws.FnExactStackRead', WHERE WHAT IT READS IS OF BULK AT MOST 1048576: true; the input reads as it did. -/
def fnExactStackReadUptoRow : OpenClaim := { program := "ytlhbjfjphckifaa", sum := "7ba1b9ea0ed44e196942e9ffb42c3695ab9bbb9ee7b0cb881ae74bfe9993858d", func := "loop.example/blockstack/laws.FnExactStackRead", spec := "fnExactStackRead", unfollowed := true, recurses := true, apart := false, narrowed := true }
def FnExactStackReadUptoSaid : Prop := fnExactStackReadUptoRow.holds Try.pinned (OpenSpec.upto fnExactStackReadSpec)

/-- 'laws.FnStackValid', WHERE WHAT IT READS IS OF BULK AT MOST 1048576: true; the input reads as it did. -/
def fnStackValidUptoRow : OpenClaim := { program := "ytlhbjfjphckifaa", sum := "7ba1b9ea0ed44e196942e9ffb42c3695ab9bbb9ee7b0cb881ae74bfe9993858d", func := "loop.example/blockstack/laws.FnStackValid", spec := "fnStackValid", unfollowed := true, recurses := true, apart := false, narrowed := true }
def FnStackValidUptoSaid : Prop := fnStackValidUptoRow.holds Try.pinned (OpenSpec.upto fnStackValidSpec)

/-- 'laws.FnExactStackValid', WHERE WHAT IT READS IS OF BULK AT MOST 1048576: true; the input reads as it did. -/
def fnExactStackValidUptoRow : OpenClaim := { program := "ytlhbjfjphckifaa", sum := "7ba1b9ea0ed44e196942e9ffb42c3695ab9bbb9ee7b0cb881ae74bfe9993858d", func := "loop.example/blockstack/laws.FnExactStackValid", spec := "fnExactStackValid", unfollowed := true, recurses := true, apart := false, narrowed := true }
def FnExactStackValidUptoSaid : Prop := fnExactStackValidUptoRow.holds Try.pinned (OpenSpec.upto fnExactStackValidSpec)

/-- 'laws.FnStackCrash', WHERE WHAT IT READS IS OF BULK AT MOST 1048576: true; the input reads as it did. -/
def fnStackCrashUptoRow : OpenClaim := { program := "ytlhbjfjphckifaa", sum := "7ba1b9ea0ed44e196942e9ffb42c3695ab9bbb9ee7b0cb881ae74bfe9993858d", func := "loop.example/blockstack/laws.FnStackCrash", spec := "fnStackCrash", unfollowed := true, recurses := true, apart := false, narrowed := true }
def FnStackCrashUptoSaid : Prop := fnStackCrashUptoRow.holds Try.pinned (OpenSpec.upto fnStackCrashSpec)

/-- 'laws.FnPartView', WHERE WHAT IT READS IS OF BULK AT MOST 1048576: true; the input reads as it did. -/
def fnPartViewUptoRow : OpenClaim := { program := "ytlhbjfjphckifaa", sum := "7ba1b9ea0ed44e196942e9ffb42c3695ab9bbb9ee7b0cb881ae74bfe9993858d", func := "loop.example/blockstack/laws.FnPartView", spec := "fnPartView", unfollowed := true, recurses := true, apart := false, narrowed := true }
def FnPartViewUptoSaid : Prop := fnPartViewUptoRow.holds Try.pinned (OpenSpec.upto fnPartViewSpec)

/-- 'laws.FnStackSync', WHERE WHAT IT READS IS OF BULK AT MOST 1048576: true; the input reads as it did. -/
def fnStackSyncUptoRow : OpenClaim := { program := "ytlhbjfjphckifaa", sum := "7ba1b9ea0ed44e196942e9ffb42c3695ab9bbb9ee7b0cb881ae74bfe9993858d", func := "loop.example/blockstack/laws.FnStackSync", spec := "fnStackSync", unfollowed := true, recurses := true, apart := false, narrowed := true }
def FnStackSyncUptoSaid : Prop := fnStackSyncUptoRow.holds Try.pinned (OpenSpec.upto fnStackSyncSpec)

/-- 'laws.FnStackFill', WHERE WHAT IT READS IS OF BULK AT MOST 1048576: true; the input reads as it did. -/
def fnStackFillUptoRow : OpenClaim := { program := "ytlhbjfjphckifaa", sum := "7ba1b9ea0ed44e196942e9ffb42c3695ab9bbb9ee7b0cb881ae74bfe9993858d", func := "loop.example/blockstack/laws.FnStackFill", spec := "fnStackFill", unfollowed := true, recurses := true, apart := false, narrowed := true }
def FnStackFillUptoSaid : Prop := fnStackFillUptoRow.holds Try.pinned (OpenSpec.upto fnStackFillSpec)

/-- 'laws.FnExactPartView', WHERE WHAT IT READS IS OF BULK AT MOST 1048576: true; the input reads as it did. -/
def fnExactPartViewUptoRow : OpenClaim := { program := "ytlhbjfjphckifaa", sum := "7ba1b9ea0ed44e196942e9ffb42c3695ab9bbb9ee7b0cb881ae74bfe9993858d", func := "loop.example/blockstack/laws.FnExactPartView", spec := "fnExactPartView", unfollowed := true, recurses := true, apart := false, narrowed := true }
def FnExactPartViewUptoSaid : Prop := fnExactPartViewUptoRow.holds Try.pinned (OpenSpec.upto fnExactPartViewSpec)

/-- 'laws.FnStackLost', WHERE WHAT IT READS IS OF BULK AT MOST 1048576: true; the input reads as it did. -/
def fnStackLostUptoRow : OpenClaim := { program := "ytlhbjfjphckifaa", sum := "7ba1b9ea0ed44e196942e9ffb42c3695ab9bbb9ee7b0cb881ae74bfe9993858d", func := "loop.example/blockstack/laws.FnStackLost", spec := "fnStackLost", unfollowed := true, recurses := true, apart := false, narrowed := true }
def FnStackLostUptoSaid : Prop := fnStackLostUptoRow.holds Try.pinned (OpenSpec.upto fnStackLostSpec)

/-- 'laws.FnExactStackCrash', WHERE WHAT IT READS IS OF BULK AT MOST 1048576: true; the input reads as it did. -/
def fnExactStackCrashUptoRow : OpenClaim := { program := "ytlhbjfjphckifaa", sum := "7ba1b9ea0ed44e196942e9ffb42c3695ab9bbb9ee7b0cb881ae74bfe9993858d", func := "loop.example/blockstack/laws.FnExactStackCrash", spec := "fnExactStackCrash", unfollowed := true, recurses := true, apart := false, narrowed := true }
def FnExactStackCrashUptoSaid : Prop := fnExactStackCrashUptoRow.holds Try.pinned (OpenSpec.upto fnExactStackCrashSpec)

/-- 'laws.FnStackRead', WHERE WHAT IT READS IS OF BULK AT MOST 1048576: true; the input reads as it did. -/
def fnStackReadUptoRow : OpenClaim := { program := "ytlhbjfjphckifaa", sum := "7ba1b9ea0ed44e196942e9ffb42c3695ab9bbb9ee7b0cb881ae74bfe9993858d", func := "loop.example/blockstack/laws.FnStackRead", spec := "fnStackRead", unfollowed := true, recurses := true, apart := false, narrowed := true }
def FnStackReadUptoSaid : Prop := fnStackReadUptoRow.holds Try.pinned (OpenSpec.upto fnStackReadSpec)

/-- 'laws.FnStackWrite', WHERE WHAT IT READS IS OF BULK AT MOST 1048576: true; the input reads as it did. -/
def fnStackWriteUptoRow : OpenClaim := { program := "ytlhbjfjphckifaa", sum := "7ba1b9ea0ed44e196942e9ffb42c3695ab9bbb9ee7b0cb881ae74bfe9993858d", func := "loop.example/blockstack/laws.FnStackWrite", spec := "fnStackWrite", unfollowed := true, recurses := true, apart := false, narrowed := true }
def FnStackWriteUptoSaid : Prop := fnStackWriteUptoRow.holds Try.pinned (OpenSpec.upto fnStackWriteSpec)

end Rows
end Go.Proofs.Ytlhbjfjphckifaa
