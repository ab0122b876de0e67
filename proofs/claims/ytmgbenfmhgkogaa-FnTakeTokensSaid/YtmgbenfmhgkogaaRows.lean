/-
  No cell of these rows narrows 'for every input' (looked for: loops, veiled, ifaces, maps, wideKeys, modest, calm, conditions, laid).
  DERIVED. THE GIVEN ROWS OF THIS SEAT. 7 by the template 'for every input the law returns true; each argument reads behind the call as it read before'; 0 by the template 'total and deterministic' (their statements: YtmgbenfmhgkogaaTotals.lean).
  GIVEN WITH THE SEED: the statements are not yours to turn. If you find one false, say at which input.
  Laid BY PROGRAM, IN A SANDBOX (cutbox-rows.mjs): the forced cells as the released guide's own fill.sh prints them over the translation 7db5a62d1f982687… (all of the seat's roots in one cut). By AI agents, Wed Nov 11 2026. No macro, syntax, notation, axiom, sorry.
-/
import Derived.Test.YtmgbenfmhgkogaaChecked
import GoSem.Claim
import GoSem.ClaimJoined
import GoSem.ClaimMapViews
import Derived.JoinedTies
import Derived.KernelRfl
namespace Go.Proofs.Ytmgbenfmhgkogaa
/- THE CELL 'sum', in the pinned program and in every row, IS THE sha256 OF THE DUMP (.gsa) THAT YtmgbenfmhgkogaaProg.lean LOADS. Nothing in Lean hashes anything: it is a label: what it is worth is what the hold of that sum in a sandbox is worth. -/
noncomputable def Try.pinned : Pinned := { name := "ytmgbenfmhgkogaa", sum := "7db5a62d1f982687bec9d4ed4b21b617d1562efaa09fd19f8a5228c379f059b5", checked := Try.checked }
namespace Rows
def none {H : Type} : Left H := { results := [], args := [] }

/-- 'laws.FnExactFillBucket': WHATEVER THE INPUT: true; the input reads as it did. -/
def fnExactFillBucketSpec : ChangeSpec := { name := "fnExactFillBucket", fn := fun _ => fun
  | [d1, d2, d3, d4] => { results := [.lit (.bool true)], args := [d1, d2, d3, d4] }
  | _ => none }
def fnExactFillBucketRow : OpenClaim := { program := "ytmgbenfmhgkogaa", sum := "7db5a62d1f982687bec9d4ed4b21b617d1562efaa09fd19f8a5228c379f059b5", func := "loop.example/blockstack/laws.FnExactFillBucket", spec := "fnExactFillBucket", apart := false }
def FnExactFillBucketSaid : Prop := fnExactFillBucketRow.holds Try.pinned (OpenSpec.ofChange fnExactFillBucketSpec)

/-- ITS FALSE NEIGHBOUR: 'it returns false'. Refute it at one input. -/
def fnExactFillBucketWrong : ChangeSpec := { name := "fnExactFillBucket", fn := fun _ => fun
  | [d1, d2, d3, d4] => { results := [.lit (.bool false)], args := [d1, d2, d3, d4] }
  | _ => none }
def FnExactFillBucketWrongFalsely : Prop := fnExactFillBucketRow.holds Try.pinned (OpenSpec.ofChange fnExactFillBucketWrong)

/-- 'laws.FnExactTakeTokens': WHATEVER THE INPUT: true; the input reads as it did. -/
def fnExactTakeTokensSpec : ChangeSpec := { name := "fnExactTakeTokens", fn := fun _ => fun
  | [d1, d2] => { results := [.lit (.bool true)], args := [d1, d2] }
  | _ => none }
def fnExactTakeTokensRow : OpenClaim := { program := "ytmgbenfmhgkogaa", sum := "7db5a62d1f982687bec9d4ed4b21b617d1562efaa09fd19f8a5228c379f059b5", func := "loop.example/blockstack/laws.FnExactTakeTokens", spec := "fnExactTakeTokens", apart := false }
def FnExactTakeTokensSaid : Prop := fnExactTakeTokensRow.holds Try.pinned (OpenSpec.ofChange fnExactTakeTokensSpec)

/-- ITS FALSE NEIGHBOUR: 'it returns false'. Refute it at one input. -/
def fnExactTakeTokensWrong : ChangeSpec := { name := "fnExactTakeTokens", fn := fun _ => fun
  | [d1, d2] => { results := [.lit (.bool false)], args := [d1, d2] }
  | _ => none }
def FnExactTakeTokensWrongFalsely : Prop := fnExactTakeTokensRow.holds Try.pinned (OpenSpec.ofChange fnExactTakeTokensWrong)

/-- 'laws.FnTakeTokens': WHATEVER THE INPUT: true; the input reads as it did. -/
def fnTakeTokensSpec : ChangeSpec := { name := "fnTakeTokens", fn := fun _ => fun
  | [d] => { results := [.lit (.bool true)], args := [d] }
  | _ => none }
def fnTakeTokensRow : OpenClaim := { program := "ytmgbenfmhgkogaa", sum := "7db5a62d1f982687bec9d4ed4b21b617d1562efaa09fd19f8a5228c379f059b5", func := "loop.example/blockstack/laws.FnTakeTokens", spec := "fnTakeTokens", apart := false }
def FnTakeTokensSaid : Prop := fnTakeTokensRow.holds Try.pinned (OpenSpec.ofChange fnTakeTokensSpec)

/-- ITS FALSE NEIGHBOUR: 'it returns false'. Refute it at one input. -/
def fnTakeTokensWrong : ChangeSpec := { name := "fnTakeTokens", fn := fun _ => fun
  | [d] => { results := [.lit (.bool false)], args := [d] }
  | _ => none }
def FnTakeTokensWrongFalsely : Prop := fnTakeTokensRow.holds Try.pinned (OpenSpec.ofChange fnTakeTokensWrong)

/-- 'laws.FnFillBucket': WHATEVER THE INPUT: true; the input reads as it did. -/
def fnFillBucketSpec : ChangeSpec := { name := "fnFillBucket", fn := fun _ => fun
  | [d] => { results := [.lit (.bool true)], args := [d] }
  | _ => none }
def fnFillBucketRow : OpenClaim := { program := "ytmgbenfmhgkogaa", sum := "7db5a62d1f982687bec9d4ed4b21b617d1562efaa09fd19f8a5228c379f059b5", func := "loop.example/blockstack/laws.FnFillBucket", spec := "fnFillBucket", apart := false }
def FnFillBucketSaid : Prop := fnFillBucketRow.holds Try.pinned (OpenSpec.ofChange fnFillBucketSpec)

/-- ITS FALSE NEIGHBOUR: 'it returns false'. Refute it at one input. -/
def fnFillBucketWrong : ChangeSpec := { name := "fnFillBucket", fn := fun _ => fun
  | [d] => { results := [.lit (.bool false)], args := [d] }
  | _ => none }
def FnFillBucketWrongFalsely : Prop := fnFillBucketRow.holds Try.pinned (OpenSpec.ofChange fnFillBucketWrong)

/-- 'laws.FnExactGrantedTimes': WHATEVER THE INPUT: true; the input reads as it did. -/
def fnExactGrantedTimesSpec : ChangeSpec := { name := "fnExactGrantedTimes", fn := fun _ => fun
  | [d1, d2, d3, d4] => { results := [.lit (.bool true)], args := [d1, d2, d3, d4] }
  | _ => none }
def fnExactGrantedTimesRow : OpenClaim := { program := "ytmgbenfmhgkogaa", sum := "7db5a62d1f982687bec9d4ed4b21b617d1562efaa09fd19f8a5228c379f059b5", func := "loop.example/blockstack/laws.FnExactGrantedTimes", spec := "fnExactGrantedTimes", apart := false }
def FnExactGrantedTimesSaid : Prop := fnExactGrantedTimesRow.holds Try.pinned (OpenSpec.ofChange fnExactGrantedTimesSpec)

/-- ITS FALSE NEIGHBOUR: 'it returns false'. Refute it at one input. -/
def fnExactGrantedTimesWrong : ChangeSpec := { name := "fnExactGrantedTimes", fn := fun _ => fun
  | [d1, d2, d3, d4] => { results := [.lit (.bool false)], args := [d1, d2, d3, d4] }
  | _ => none }
def FnExactGrantedTimesWrongFalsely : Prop := fnExactGrantedTimesRow.holds Try.pinned (OpenSpec.ofChange fnExactGrantedTimesWrong)

/-- 'laws.FnBucketSteady': WHATEVER THE INPUT: true; the input reads as it did. -/
def fnBucketSteadySpec : ChangeSpec := { name := "fnBucketSteady", fn := fun _ => fun
  | [d] => { results := [.lit (.bool true)], args := [d] }
  | _ => none }
def fnBucketSteadyRow : OpenClaim := { program := "ytmgbenfmhgkogaa", sum := "7db5a62d1f982687bec9d4ed4b21b617d1562efaa09fd19f8a5228c379f059b5", func := "loop.example/blockstack/laws.FnBucketSteady", spec := "fnBucketSteady", apart := false }
def FnBucketSteadySaid : Prop := fnBucketSteadyRow.holds Try.pinned (OpenSpec.ofChange fnBucketSteadySpec)

/-- ITS FALSE NEIGHBOUR: 'it returns false'. Refute it at one input. -/
def fnBucketSteadyWrong : ChangeSpec := { name := "fnBucketSteady", fn := fun _ => fun
  | [d] => { results := [.lit (.bool false)], args := [d] }
  | _ => none }
def FnBucketSteadyWrongFalsely : Prop := fnBucketSteadyRow.holds Try.pinned (OpenSpec.ofChange fnBucketSteadyWrong)

/-- 'laws.FnGrantedTimes': WHATEVER THE INPUT: true; the input reads as it did. -/
def fnGrantedTimesSpec : ChangeSpec := { name := "fnGrantedTimes", fn := fun _ => fun
  | [d] => { results := [.lit (.bool true)], args := [d] }
  | _ => none }
def fnGrantedTimesRow : OpenClaim := { program := "ytmgbenfmhgkogaa", sum := "7db5a62d1f982687bec9d4ed4b21b617d1562efaa09fd19f8a5228c379f059b5", func := "loop.example/blockstack/laws.FnGrantedTimes", spec := "fnGrantedTimes", apart := false }
def FnGrantedTimesSaid : Prop := fnGrantedTimesRow.holds Try.pinned (OpenSpec.ofChange fnGrantedTimesSpec)

/-- ITS FALSE NEIGHBOUR: 'it returns false'. Refute it at one input. -/
def fnGrantedTimesWrong : ChangeSpec := { name := "fnGrantedTimes", fn := fun _ => fun
  | [d] => { results := [.lit (.bool false)], args := [d] }
  | _ => none }
def FnGrantedTimesWrongFalsely : Prop := fnGrantedTimesRow.holds Try.pinned (OpenSpec.ofChange fnGrantedTimesWrong)

/- THE SECOND FORM. 'bulk': how many values and letters a reading holds, each counted each time it is reached (what is shared counts as often as it is met; a slice's spare places count too). A statement '..UptoSaid' is the law's where the arguments, and the package variables that the reading takes, are together of bulk at most 1048576: NARROWER than '..Said'. Prove '..Said' where nothing that the law and all that it calls make is longer than what came in: it says more and counts as full. Else prove '..UptoSaid'. A law counts once. -/
mutual
def uptoBulk {H : Type} : DataW H → Nat
  | .lit (.string bytes) => bytes.length + 1
  | .lit _ => 1
  | .nil => 1
  | .ptr d => uptoBulk d + 1
  | .slice elems spare => uptoBulkAll elems + uptoBulkAll spare + 1
  | .agg parts => uptoBulkAll parts + 1
  | .iface _ d => uptoBulk d + 1
  | .map entries => uptoBulkEntries entries + 1
  | .held _ => 1
def uptoBulkAll {H : Type} : List (DataW H) → Nat
  | [] => 0
  | d :: r => uptoBulk d + uptoBulkAll r
def uptoBulkEntries {H : Type} : List (Lit × DataW H) → Nat
  | [] => 0
  | x :: r => uptoBulkEntry x + uptoBulkEntries r
def uptoBulkEntry {H : Type} : Lit × DataW H → Nat
  | (.string bytes, d) => bytes.length + uptoBulk d + 1
  | (_, d) => uptoBulk d + 1
 end
def uptoSmall : (H : Type) → List (DataW H) → Bool := fun _ ds => decide (uptoBulkAll ds ≤ 1048576)
def OpenSpec.upto (s : _root_.Go.ChangeSpec) : _root_.Go.OpenSpec := { _root_.Go.OpenSpec.ofChange s with cond := some uptoSmall }

/-- 'laws.FnExactFillBucket', WHERE WHAT IT READS IS OF BULK AT MOST 1048576: true; the input reads as it did. -/
def fnExactFillBucketUptoRow : OpenClaim := { program := "ytmgbenfmhgkogaa", sum := "7db5a62d1f982687bec9d4ed4b21b617d1562efaa09fd19f8a5228c379f059b5", func := "loop.example/blockstack/laws.FnExactFillBucket", spec := "fnExactFillBucket", apart := false, narrowed := true }
def FnExactFillBucketUptoSaid : Prop := fnExactFillBucketUptoRow.holds Try.pinned (OpenSpec.upto fnExactFillBucketSpec)

/-- 'laws.FnExactTakeTokens', WHERE WHAT IT READS IS OF BULK AT MOST 1048576: true; the input reads as it did. -/
def fnExactTakeTokensUptoRow : OpenClaim := { program := "ytmgbenfmhgkogaa", sum := "7db5a62d1f982687bec9d4ed4b21b617d1562efaa09fd19f8a5228c379f059b5", func := "loop.example/blockstack/laws.FnExactTakeTokens", spec := "fnExactTakeTokens", apart := false, narrowed := true }
def FnExactTakeTokensUptoSaid : Prop := fnExactTakeTokensUptoRow.holds Try.pinned (OpenSpec.upto fnExactTakeTokensSpec)

/-- 'laws.FnTakeTokens', WHERE WHAT IT READS IS OF BULK AT MOST 1048576: true; the input reads as it did. -/
def fnTakeTokensUptoRow : OpenClaim := { program := "ytmgbenfmhgkogaa", sum := "7db5a62d1f982687bec9d4ed4b21b617d1562efaa09fd19f8a5228c379f059b5", func := "loop.example/blockstack/laws.FnTakeTokens", spec := "fnTakeTokens", apart := false, narrowed := true }
def FnTakeTokensUptoSaid : Prop := fnTakeTokensUptoRow.holds Try.pinned (OpenSpec.upto fnTakeTokensSpec)

/-- 'laws.FnFillBucket', WHERE WHAT IT READS IS OF BULK AT MOST 1048576: true; the input reads as it did. -/
def fnFillBucketUptoRow : OpenClaim := { program := "ytmgbenfmhgkogaa", sum := "7db5a62d1f982687bec9d4ed4b21b617d1562efaa09fd19f8a5228c379f059b5", func := "loop.example/blockstack/laws.FnFillBucket", spec := "fnFillBucket", apart := false, narrowed := true }
def FnFillBucketUptoSaid : Prop := fnFillBucketUptoRow.holds Try.pinned (OpenSpec.upto fnFillBucketSpec)

/-- 'laws.FnExactGrantedTimes', WHERE WHAT IT READS IS OF BULK AT MOST 1048576: true; the input reads as it did. -/
def fnExactGrantedTimesUptoRow : OpenClaim := { program := "ytmgbenfmhgkogaa", sum := "7db5a62d1f982687bec9d4ed4b21b617d1562efaa09fd19f8a5228c379f059b5", func := "loop.example/blockstack/laws.FnExactGrantedTimes", spec := "fnExactGrantedTimes", apart := false, narrowed := true }
def FnExactGrantedTimesUptoSaid : Prop := fnExactGrantedTimesUptoRow.holds Try.pinned (OpenSpec.upto fnExactGrantedTimesSpec)

/-- 'laws.FnBucketSteady', WHERE WHAT IT READS IS OF BULK AT MOST 1048576: true; the input reads as it did. -/
def fnBucketSteadyUptoRow : OpenClaim := { program := "ytmgbenfmhgkogaa", sum := "7db5a62d1f982687bec9d4ed4b21b617d1562efaa09fd19f8a5228c379f059b5", func := "loop.example/blockstack/laws.FnBucketSteady", spec := "fnBucketSteady", apart := false, narrowed := true }
def FnBucketSteadyUptoSaid : Prop := fnBucketSteadyUptoRow.holds Try.pinned (OpenSpec.upto fnBucketSteadySpec)

/-- 'laws.FnGrantedTimes', WHERE WHAT IT READS IS OF BULK AT MOST 1048576: true; the input reads as it did. -/
def fnGrantedTimesUptoRow : OpenClaim := { program := "ytmgbenfmhgkogaa", sum := "7db5a62d1f982687bec9d4ed4b21b617d1562efaa09fd19f8a5228c379f059b5", func := "loop.example/blockstack/laws.FnGrantedTimes", spec := "fnGrantedTimes", apart := false, narrowed := true }
def FnGrantedTimesUptoSaid : Prop := fnGrantedTimesUptoRow.holds Try.pinned (OpenSpec.upto fnGrantedTimesSpec)

end Rows
end Go.Proofs.Ytmgbenfmhgkogaa
