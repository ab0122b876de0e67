/-
  No cell of these rows narrows 'for every input' (looked for: loops, veiled, ifaces, maps, wideKeys, modest, calm, conditions, laid).
  DERIVED. THE GIVEN ROWS OF THIS SEAT. 9 by the template 'for every input the law returns true; each argument reads behind the call as it read before'; 0 by the template 'total and deterministic' (their statements: YtpekccmhfkeadaaTotals.lean).
  GIVEN WITH THE SEED: the statements are not yours to turn. If you find one false, say at which input.
  Laid BY PROGRAM, IN A SANDBOX (cutbox-rows.mjs): the forced cells as the released guide's own fill.sh prints them over the translation f4cb1eecc8837026… (all of the seat's roots in one cut). By AI agents, Wed Nov 11 2026. No macro, syntax, notation, axiom, sorry.
-/
import Derived.Test.YtpekccmhfkeadaaChecked
import GoSem.Claim
import GoSem.ClaimJoined
import GoSem.ClaimMapViews
import Derived.JoinedTies
import Derived.KernelRfl
namespace Go.Proofs.Ytpekccmhfkeadaa
/- THE CELL 'sum', in the pinned program and in every row, IS THE sha256 OF THE DUMP (.gsa) THAT YtpekccmhfkeadaaProg.lean LOADS. Nothing in Lean hashes anything: it is a label: what it is worth is what the hold of that sum in a sandbox is worth. -/
noncomputable def Try.pinned : Pinned := { name := "ytpekccmhfkeadaa", sum := "f4cb1eecc88370266a7d22c17530e177e6d0d0e52445fce9bdc1c06c23ca1a23", checked := Try.checked }
namespace Rows
def none {H : Type} : Left H := { results := [], args := [] }

/-- 'laws.FnExactSharedValid': WHATEVER THE INPUT: true; the input reads as it did. -/
def fnExactSharedValidSpec : ChangeSpec := { name := "fnExactSharedValid", fn := fun _ => fun
  | [d] => { results := [.lit (.bool true)], args := [d] }
  | _ => none }
def fnExactSharedValidRow : OpenClaim := { program := "ytpekccmhfkeadaa", sum := "f4cb1eecc88370266a7d22c17530e177e6d0d0e52445fce9bdc1c06c23ca1a23", func := "loop.example/blockstack/laws.FnExactSharedValid", spec := "fnExactSharedValid", unfollowed := true, recurses := true, apart := false }
def FnExactSharedValidSaid : Prop := fnExactSharedValidRow.holds Try.pinned (OpenSpec.ofChange fnExactSharedValidSpec)

/-- ITS FALSE NEIGHBOUR: 'it returns false'. Refute it at one input. -/
def fnExactSharedValidWrong : ChangeSpec := { name := "fnExactSharedValid", fn := fun _ => fun
  | [d] => { results := [.lit (.bool false)], args := [d] }
  | _ => none }
def FnExactSharedValidWrongFalsely : Prop := fnExactSharedValidRow.holds Try.pinned (OpenSpec.ofChange fnExactSharedValidWrong)

/-- 'laws.FnShareDisk': WHATEVER THE INPUT: true; the input reads as it did. -/
def fnShareDiskSpec : ChangeSpec := { name := "fnShareDisk", fn := fun _ => fun
  | [d] => { results := [.lit (.bool true)], args := [d] }
  | _ => none }
def fnShareDiskRow : OpenClaim := { program := "ytpekccmhfkeadaa", sum := "f4cb1eecc88370266a7d22c17530e177e6d0d0e52445fce9bdc1c06c23ca1a23", func := "loop.example/blockstack/laws.FnShareDisk", spec := "fnShareDisk", unfollowed := true, recurses := true, apart := false }
def FnShareDiskSaid : Prop := fnShareDiskRow.holds Try.pinned (OpenSpec.ofChange fnShareDiskSpec)

/-- ITS FALSE NEIGHBOUR: 'it returns false'. Refute it at one input. -/
def fnShareDiskWrong : ChangeSpec := { name := "fnShareDisk", fn := fun _ => fun
  | [d] => { results := [.lit (.bool false)], args := [d] }
  | _ => none }
def FnShareDiskWrongFalsely : Prop := fnShareDiskRow.holds Try.pinned (OpenSpec.ofChange fnShareDiskWrong)

/-- 'laws.FnExactShareDisk': WHATEVER THE INPUT: true; the input reads as it did. -/
def fnExactShareDiskSpec : ChangeSpec := { name := "fnExactShareDisk", fn := fun _ => fun
  | [d] => { results := [.lit (.bool true)], args := [d] }
  | _ => none }
def fnExactShareDiskRow : OpenClaim := { program := "ytpekccmhfkeadaa", sum := "f4cb1eecc88370266a7d22c17530e177e6d0d0e52445fce9bdc1c06c23ca1a23", func := "loop.example/blockstack/laws.FnExactShareDisk", spec := "fnExactShareDisk", unfollowed := true, recurses := true, apart := false }
def FnExactShareDiskSaid : Prop := fnExactShareDiskRow.holds Try.pinned (OpenSpec.ofChange fnExactShareDiskSpec)

/-- ITS FALSE NEIGHBOUR: 'it returns false'. Refute it at one input. -/
def fnExactShareDiskWrong : ChangeSpec := { name := "fnExactShareDisk", fn := fun _ => fun
  | [d] => { results := [.lit (.bool false)], args := [d] }
  | _ => none }
def FnExactShareDiskWrongFalsely : Prop := fnExactShareDiskRow.holds Try.pinned (OpenSpec.ofChange fnExactShareDiskWrong)

/-- 'laws.FnSharedValid': WHATEVER THE INPUT: true; the input reads as it did. -/
def fnSharedValidSpec : ChangeSpec := { name := "fnSharedValid", fn := fun _ => fun
  | [d] => { results := [.lit (.bool true)], args := [d] }
  | _ => none }
def fnSharedValidRow : OpenClaim := { program := "ytpekccmhfkeadaa", sum := "f4cb1eecc88370266a7d22c17530e177e6d0d0e52445fce9bdc1c06c23ca1a23", func := "loop.example/blockstack/laws.FnSharedValid", spec := "fnSharedValid", unfollowed := true, recurses := true, apart := false }
def FnSharedValidSaid : Prop := fnSharedValidRow.holds Try.pinned (OpenSpec.ofChange fnSharedValidSpec)

/-- ITS FALSE NEIGHBOUR: 'it returns false'. Refute it at one input. -/
def fnSharedValidWrong : ChangeSpec := { name := "fnSharedValid", fn := fun _ => fun
  | [d] => { results := [.lit (.bool false)], args := [d] }
  | _ => none }
def FnSharedValidWrongFalsely : Prop := fnSharedValidRow.holds Try.pinned (OpenSpec.ofChange fnSharedValidWrong)

/-- 'laws.FnExactSharedView': WHATEVER THE INPUT: true; the input reads as it did. -/
def fnExactSharedViewSpec : ChangeSpec := { name := "fnExactSharedView", fn := fun _ => fun
  | [d] => { results := [.lit (.bool true)], args := [d] }
  | _ => none }
def fnExactSharedViewRow : OpenClaim := { program := "ytpekccmhfkeadaa", sum := "f4cb1eecc88370266a7d22c17530e177e6d0d0e52445fce9bdc1c06c23ca1a23", func := "loop.example/blockstack/laws.FnExactSharedView", spec := "fnExactSharedView", unfollowed := true, recurses := true, apart := false }
def FnExactSharedViewSaid : Prop := fnExactSharedViewRow.holds Try.pinned (OpenSpec.ofChange fnExactSharedViewSpec)

/-- ITS FALSE NEIGHBOUR: 'it returns false'. Refute it at one input. -/
def fnExactSharedViewWrong : ChangeSpec := { name := "fnExactSharedView", fn := fun _ => fun
  | [d] => { results := [.lit (.bool false)], args := [d] }
  | _ => none }
def FnExactSharedViewWrongFalsely : Prop := fnExactSharedViewRow.holds Try.pinned (OpenSpec.ofChange fnExactSharedViewWrong)

/-- 'laws.FnSharedView': WHATEVER THE INPUT: true; the input reads as it did. -/
def fnSharedViewSpec : ChangeSpec := { name := "fnSharedView", fn := fun _ => fun
  | [d] => { results := [.lit (.bool true)], args := [d] }
  | _ => none }
def fnSharedViewRow : OpenClaim := { program := "ytpekccmhfkeadaa", sum := "f4cb1eecc88370266a7d22c17530e177e6d0d0e52445fce9bdc1c06c23ca1a23", func := "loop.example/blockstack/laws.FnSharedView", spec := "fnSharedView", unfollowed := true, recurses := true, apart := false }
def FnSharedViewSaid : Prop := fnSharedViewRow.holds Try.pinned (OpenSpec.ofChange fnSharedViewSpec)

/-- ITS FALSE NEIGHBOUR: 'it returns false'. Refute it at one input. -/
def fnSharedViewWrong : ChangeSpec := { name := "fnSharedView", fn := fun _ => fun
  | [d] => { results := [.lit (.bool false)], args := [d] }
  | _ => none }
def FnSharedViewWrongFalsely : Prop := fnSharedViewRow.holds Try.pinned (OpenSpec.ofChange fnSharedViewWrong)

/-- 'laws.FnSharedOne': WHATEVER THE INPUT: true; the input reads as it did. -/
def fnSharedOneSpec : ChangeSpec := { name := "fnSharedOne", fn := fun _ => fun
  | [d] => { results := [.lit (.bool true)], args := [d] }
  | _ => none }
def fnSharedOneRow : OpenClaim := { program := "ytpekccmhfkeadaa", sum := "f4cb1eecc88370266a7d22c17530e177e6d0d0e52445fce9bdc1c06c23ca1a23", func := "loop.example/blockstack/laws.FnSharedOne", spec := "fnSharedOne", unfollowed := true, recurses := true, apart := false }
def FnSharedOneSaid : Prop := fnSharedOneRow.holds Try.pinned (OpenSpec.ofChange fnSharedOneSpec)

/-- ITS FALSE NEIGHBOUR: 'it returns false'. Refute it at one input. -/
def fnSharedOneWrong : ChangeSpec := { name := "fnSharedOne", fn := fun _ => fun
  | [d] => { results := [.lit (.bool false)], args := [d] }
  | _ => none }
def FnSharedOneWrongFalsely : Prop := fnSharedOneRow.holds Try.pinned (OpenSpec.ofChange fnSharedOneWrong)

/-- 'laws.FnExactSharedWrite': WHATEVER THE INPUT: true; the input reads as it did. -/
def fnExactSharedWriteSpec : ChangeSpec := { name := "fnExactSharedWrite", fn := fun _ => fun
  | [d1, d2, d3] => { results := [.lit (.bool true)], args := [d1, d2, d3] }
  | _ => none }
def fnExactSharedWriteRow : OpenClaim := { program := "ytpekccmhfkeadaa", sum := "f4cb1eecc88370266a7d22c17530e177e6d0d0e52445fce9bdc1c06c23ca1a23", func := "loop.example/blockstack/laws.FnExactSharedWrite", spec := "fnExactSharedWrite", unfollowed := true, recurses := true, apart := false }
def FnExactSharedWriteSaid : Prop := fnExactSharedWriteRow.holds Try.pinned (OpenSpec.ofChange fnExactSharedWriteSpec)

/-- ITS FALSE NEIGHBOUR: 'it returns false'. Refute it at one input. -/
def fnExactSharedWriteWrong : ChangeSpec := { name := "fnExactSharedWrite", fn := fun _ => fun
  | [d1, d2, d3] => { results := [.lit (.bool false)], args := [d1, d2, d3] }
  | _ => none }
def FnExactSharedWriteWrongFalsely : Prop := fnExactSharedWriteRow.holds Try.pinned (OpenSpec.ofChange fnExactSharedWriteWrong)

/-- 'laws.FnSharedWrite': WHATEVER THE INPUT: true; the input reads as it did. -/
def fnSharedWriteSpec : ChangeSpec := { name := "fnSharedWrite", fn := fun _ => fun
  | [d] => { results := [.lit (.bool true)], args := [d] }
  | _ => none }
def fnSharedWriteRow : OpenClaim := { program := "ytpekccmhfkeadaa", sum := "f4cb1eecc88370266a7d22c17530e177e6d0d0e52445fce9bdc1c06c23ca1a23", func := "loop.example/blockstack/laws.FnSharedWrite", spec := "fnSharedWrite", unfollowed := true, recurses := true, apart := false }
def FnSharedWriteSaid : Prop := fnSharedWriteRow.holds Try.pinned (OpenSpec.ofChange fnSharedWriteSpec)

/-- ITS FALSE NEIGHBOUR: 'it returns false'. Refute it at one input. -/
def fnSharedWriteWrong : ChangeSpec := { name := "fnSharedWrite", fn := fun _ => fun
  | [d] => { results := [.lit (.bool false)], args := [d] }
  | _ => none }
def FnSharedWriteWrongFalsely : Prop := fnSharedWriteRow.holds Try.pinned (OpenSpec.ofChange fnSharedWriteWrong)

/- THE SECOND FORM. 'bulk': how many values and letters a reading holds, each counted each time it is reached (what is shared counts as often as it is met; a slice's spare places count too). A statement '..UptoSaid' is the law's where the arguments, and the package variables that the reading takes, are together of bulk at most 1048576: NARROWER than '..Said'. Prove '..Said' where nothing that the law and all that it calls make is longer than what came in: it says more and counts as full. Else prove '..UptoSaid'. A law counts once. -/
mutual
def uptoBulk {H : Type} : DataW H → Nat
  | .lit (.string bytes) => bytes.length + 1
  | .lit _ => 1
  | .nil => 1
  | .ptr d => uptoBulk d + 1
  | .slice elems spare => uptoBulkAll elems + uptoBulkAll spare + 1
  | .agg parts => uptoBulkAll parts + 1
  | .iface _ d => uptoBulk d + 1
  | .map entries => uptoBulkEntries entries + 1
  | .held _ => 1
def uptoBulkAll {H : Type} : List (DataW H) → Nat
  | [] => 0
  | d :: r => uptoBulk d + uptoBulkAll r
def uptoBulkEntries {H : Type} : List (Lit × DataW H) → Nat
  | [] => 0
  | x :: r => uptoBulkEntry x + uptoBulkEntries r
def uptoBulkEntry {H : Type} : Lit × DataW H → Nat
  | (.string bytes, d) => bytes.length + uptoBulk d + 1
  | (_, d) => uptoBulk d + 1
 end
def uptoSmall : (H : Type) → List (DataW H) → Bool := fun _ ds => decide (uptoBulkAll ds ≤ 1048576)
def OpenSpec.upto (s : _root_.Go.ChangeSpec) : _root_.Go.OpenSpec := { _root_.Go.OpenSpec.ofChange s with cond := some uptoSmall }

/-- 'laws.FnExactSharedValid', WHERE WHAT IT READS IS OF BULK AT MOST 1048576: true; the input reads as it did. -/
def fnExactSharedValidUptoRow : OpenClaim := { program := "ytpekccmhfkeadaa", sum := "f4cb1eecc88370266a7d22c17530e177e6d0d0e52445fce9bdc1c06c23ca1a23", func := "loop.example/blockstack/laws.FnExactSharedValid", spec := "fnExactSharedValid", unfollowed := true, recurses := true, apart := false, narrowed := true }
def FnExactSharedValidUptoSaid : Prop := fnExactSharedValidUptoRow.holds Try.pinned (OpenSpec.upto fnExactSharedValidSpec)

/-- 'laws.FnShareDisk', WHERE WHAT IT READS IS OF BULK AT MOST 1048576: true; the input reads as it did. -/
def fnShareDiskUptoRow : OpenClaim := { program := "ytpekccmhfkeadaa", sum := "f4cb1eecc88370266a7d22c17530e177e6d0d0e52445fce9bdc1c06c23ca1a23", func := "loop.example/blockstack/laws.FnShareDisk", spec := "fnShareDisk", unfollowed := true, recurses := true, apart := false, narrowed := true }
def FnShareDiskUptoSaid : Prop := fnShareDiskUptoRow.holds Try.pinned (OpenSpec.upto fnShareDiskSpec)

/-- 'laws.FnExactShareDisk', WHERE WHAT IT READS IS OF BULK AT MOST 1048576: true; the input reads as it did. -/
def fnExactShareDiskUptoRow : OpenClaim := { program := "ytpekccmhfkeadaa", sum := "f4cb1eecc88370266a7d22c17530e177e6d0d0e52445fce9bdc1c06c23ca1a23", func := "loop.example/blockstack/laws.FnExactShareDisk", spec := "fnExactShareDisk", unfollowed := true, recurses := true, apart := false, narrowed := true }
def FnExactShareDiskUptoSaid : Prop := fnExactShareDiskUptoRow.holds Try.pinned (OpenSpec.upto fnExactShareDiskSpec)

/-- 'laws.FnSharedValid', WHERE WHAT IT READS IS OF BULK AT MOST 1048576: true; the input reads as it did. -/
def fnSharedValidUptoRow : OpenClaim := { program := "ytpekccmhfkeadaa", sum := "f4cb1eecc88370266a7d22c17530e177e6d0d0e52445fce9bdc1c06c23ca1a23", func := "loop.example/blockstack/laws.FnSharedValid", spec := "fnSharedValid", unfollowed := true, recurses := true, apart := false, narrowed := true }
def FnSharedValidUptoSaid : Prop := fnSharedValidUptoRow.holds Try.pinned (OpenSpec.upto fnSharedValidSpec)

/-- 'laws.FnExactSharedView', WHERE WHAT IT READS IS OF BULK AT MOST 1048576: true; the input reads as it did. -/
def fnExactSharedViewUptoRow : OpenClaim := { program := "ytpekccmhfkeadaa", sum := "f4cb1eecc88370266a7d22c17530e177e6d0d0e52445fce9bdc1c06c23ca1a23", func := "loop.example/blockstack/laws.FnExactSharedView", spec := "fnExactSharedView", unfollowed := true, recurses := true, apart := false, narrowed := true }
def FnExactSharedViewUptoSaid : Prop := fnExactSharedViewUptoRow.holds Try.pinned (OpenSpec.upto fnExactSharedViewSpec)

/-- 'laws.FnSharedView', WHERE WHAT IT READS IS OF BULK AT MOST 1048576: true; the input reads as it did. -/
def fnSharedViewUptoRow : OpenClaim := { program := "ytpekccmhfkeadaa", sum := "f4cb1eecc88370266a7d22c17530e177e6d0d0e52445fce9bdc1c06c23ca1a23", func := "loop.example/blockstack/laws.FnSharedView", spec := "fnSharedView", unfollowed := true, recurses := true, apart := false, narrowed := true }
def FnSharedViewUptoSaid : Prop := fnSharedViewUptoRow.holds Try.pinned (OpenSpec.upto fnSharedViewSpec)

/-- 'laws.FnSharedOne', WHERE WHAT IT READS IS OF BULK AT MOST 1048576: true; the input reads as it did. -/
def fnSharedOneUptoRow : OpenClaim := { program := "ytpekccmhfkeadaa", sum := "f4cb1eecc88370266a7d22c17530e177e6d0d0e52445fce9bdc1c06c23ca1a23", func := "loop.example/blockstack/laws.FnSharedOne", spec := "fnSharedOne", unfollowed := true, recurses := true, apart := false, narrowed := true }
def FnSharedOneUptoSaid : Prop := fnSharedOneUptoRow.holds Try.pinned (OpenSpec.upto fnSharedOneSpec)

/-- 'laws.FnExactSharedWrite', WHERE WHAT IT READS IS OF BULK AT MOST 1048576: true; the input reads as it did. -/
def fnExactSharedWriteUptoRow : OpenClaim := { program := "ytpekccmhfkeadaa", sum := "f4cb1eecc88370266a7d22c17530e177e6d0d0e52445fce9bdc1c06c23ca1a23", func := "loop.example/blockstack/laws.FnExactSharedWrite", spec := "fnExactSharedWrite", unfollowed := true, recurses := true, apart := false, narrowed := true }
def FnExactSharedWriteUptoSaid : Prop := fnExactSharedWriteUptoRow.holds Try.pinned (OpenSpec.upto fnExactSharedWriteSpec)

/-- 'laws.FnSharedWrite', WHERE WHAT IT READS IS OF BULK AT MOST 1048576: true; the input reads as it did. -/
def fnSharedWriteUptoRow : OpenClaim := { program := "ytpekccmhfkeadaa", sum := "f4cb1eecc88370266a7d22c17530e177e6d0d0e52445fce9bdc1c06c23ca1a23", func := "loop.example/blockstack/laws.FnSharedWrite", spec := "fnSharedWrite", unfollowed := true, recurses := true, apart := false, narrowed := true }
def FnSharedWriteUptoSaid : Prop := fnSharedWriteUptoRow.holds Try.pinned (OpenSpec.upto fnSharedWriteSpec)

end Rows
end Go.Proofs.Ytpekccmhfkeadaa
