/-
  No cell of these rows narrows 'for every input' (looked for: loops, veiled, ifaces, maps, wideKeys, modest, calm, conditions, laid).
  DERIVED. THE GIVEN ROWS OF THIS SEAT. 13 by the template 'for every input the law returns true; each argument reads behind the call as it read before'; 0 by the template 'total and deterministic' (their statements: YtnnanknljpkdeaaTotals.lean).
  GIVEN WITH THE SEED: the statements are not yours to turn. If you find one false, say at which input.
  Laid BY PROGRAM, IN A SANDBOX (cutbox-rows.mjs): the forced cells as the released guide's own fill.sh prints them over the translation aa77886b1cbfe9c4… (all of the seat's roots in one cut). By AI agents, Wed Nov 11 2026. No macro, syntax, notation, axiom, sorry.
-/
import Derived.Test.YtnnanknljpkdeaaChecked
import GoSem.Claim
import GoSem.ClaimJoined
import GoSem.ClaimMapViews
import Derived.JoinedTies
import Derived.KernelRfl
namespace Go.Proofs.Ytnnanknljpkdeaa
/- THE CELL 'sum', in the pinned program and in every row, IS THE sha256 OF THE DUMP (.gsa) THAT YtnnanknljpkdeaaProg.lean LOADS. Nothing in Lean hashes anything: it is a label: what it is worth is what the hold of that sum in a sandbox is worth. -/
noncomputable def Try.pinned : Pinned := { name := "ytnnanknljpkdeaa", sum := "aa77886b1cbfe9c48b03c74815fddc0664b20eef1d73102041c236e2f8604b7c", checked := Try.checked }
namespace Rows
def none {H : Type} : Left H := { results := [], args := [] }

/-- 'laws.FnExactFlashValid': WHATEVER THE INPUT: true; the input reads as it did. -/
def fnExactFlashValidSpec : ChangeSpec := { name := "fnExactFlashValid", fn := fun _ => fun
  | [d] => { results := [.lit (.bool true)], args := [d] }
  | _ => none }
def fnExactFlashValidRow : OpenClaim := { program := "ytnnanknljpkdeaa", sum := "aa77886b1cbfe9c48b03c74815fddc0664b20eef1d73102041c236e2f8604b7c", func := "loop.example/blockstack/laws.FnExactFlashValid", spec := "fnExactFlashValid", unfollowed := true, recurses := true, apart := false }
def FnExactFlashValidSaid : Prop := fnExactFlashValidRow.holds Try.pinned (OpenSpec.ofChange fnExactFlashValidSpec)

/-- ITS FALSE NEIGHBOUR: 'it returns false'. Refute it at one input. -/
def fnExactFlashValidWrong : ChangeSpec := { name := "fnExactFlashValid", fn := fun _ => fun
  | [d] => { results := [.lit (.bool false)], args := [d] }
  | _ => none }
def FnExactFlashValidWrongFalsely : Prop := fnExactFlashValidRow.holds Try.pinned (OpenSpec.ofChange fnExactFlashValidWrong)

/-- 'laws.FnExactNewFlash': WHATEVER THE INPUT: true; the input reads as it did. -/
def fnExactNewFlashSpec : ChangeSpec := { name := "fnExactNewFlash", fn := fun _ => fun
  | [d] => { results := [.lit (.bool true)], args := [d] }
  | _ => none }
def fnExactNewFlashRow : OpenClaim := { program := "ytnnanknljpkdeaa", sum := "aa77886b1cbfe9c48b03c74815fddc0664b20eef1d73102041c236e2f8604b7c", func := "loop.example/blockstack/laws.FnExactNewFlash", spec := "fnExactNewFlash", apart := false }
def FnExactNewFlashSaid : Prop := fnExactNewFlashRow.holds Try.pinned (OpenSpec.ofChange fnExactNewFlashSpec)

/-- ITS FALSE NEIGHBOUR: 'it returns false'. Refute it at one input. -/
def fnExactNewFlashWrong : ChangeSpec := { name := "fnExactNewFlash", fn := fun _ => fun
  | [d] => { results := [.lit (.bool false)], args := [d] }
  | _ => none }
def FnExactNewFlashWrongFalsely : Prop := fnExactNewFlashRow.holds Try.pinned (OpenSpec.ofChange fnExactNewFlashWrong)

/-- 'laws.FnExactWearSpread': WHATEVER THE INPUT: true; the input reads as it did. -/
def fnExactWearSpreadSpec : ChangeSpec := { name := "fnExactWearSpread", fn := fun _ => fun
  | [d] => { results := [.lit (.bool true)], args := [d] }
  | _ => none }
def fnExactWearSpreadRow : OpenClaim := { program := "ytnnanknljpkdeaa", sum := "aa77886b1cbfe9c48b03c74815fddc0664b20eef1d73102041c236e2f8604b7c", func := "loop.example/blockstack/laws.FnExactWearSpread", spec := "fnExactWearSpread", unfollowed := true, recurses := true, apart := false }
def FnExactWearSpreadSaid : Prop := fnExactWearSpreadRow.holds Try.pinned (OpenSpec.ofChange fnExactWearSpreadSpec)

/-- ITS FALSE NEIGHBOUR: 'it returns false'. Refute it at one input. -/
def fnExactWearSpreadWrong : ChangeSpec := { name := "fnExactWearSpread", fn := fun _ => fun
  | [d] => { results := [.lit (.bool false)], args := [d] }
  | _ => none }
def FnExactWearSpreadWrongFalsely : Prop := fnExactWearSpreadRow.holds Try.pinned (OpenSpec.ofChange fnExactWearSpreadWrong)

/-- 'laws.FnFlashValid': WHATEVER THE INPUT: true; the input reads as it did. -/
def fnFlashValidSpec : ChangeSpec := { name := "fnFlashValid", fn := fun _ => fun
  | [d] => { results := [.lit (.bool true)], args := [d] }
  | _ => none }
def fnFlashValidRow : OpenClaim := { program := "ytnnanknljpkdeaa", sum := "aa77886b1cbfe9c48b03c74815fddc0664b20eef1d73102041c236e2f8604b7c", func := "loop.example/blockstack/laws.FnFlashValid", spec := "fnFlashValid", unfollowed := true, recurses := true, apart := false }
def FnFlashValidSaid : Prop := fnFlashValidRow.holds Try.pinned (OpenSpec.ofChange fnFlashValidSpec)

/-- ITS FALSE NEIGHBOUR: 'it returns false'. Refute it at one input. -/
def fnFlashValidWrong : ChangeSpec := { name := "fnFlashValid", fn := fun _ => fun
  | [d] => { results := [.lit (.bool false)], args := [d] }
  | _ => none }
def FnFlashValidWrongFalsely : Prop := fnFlashValidRow.holds Try.pinned (OpenSpec.ofChange fnFlashValidWrong)

/-- 'laws.FnExactFlashView': WHATEVER THE INPUT: true; the input reads as it did. -/
def fnExactFlashViewSpec : ChangeSpec := { name := "fnExactFlashView", fn := fun _ => fun
  | [d] => { results := [.lit (.bool true)], args := [d] }
  | _ => none }
def fnExactFlashViewRow : OpenClaim := { program := "ytnnanknljpkdeaa", sum := "aa77886b1cbfe9c48b03c74815fddc0664b20eef1d73102041c236e2f8604b7c", func := "loop.example/blockstack/laws.FnExactFlashView", spec := "fnExactFlashView", unfollowed := true, recurses := true, apart := false }
def FnExactFlashViewSaid : Prop := fnExactFlashViewRow.holds Try.pinned (OpenSpec.ofChange fnExactFlashViewSpec)

/-- ITS FALSE NEIGHBOUR: 'it returns false'. Refute it at one input. -/
def fnExactFlashViewWrong : ChangeSpec := { name := "fnExactFlashView", fn := fun _ => fun
  | [d] => { results := [.lit (.bool false)], args := [d] }
  | _ => none }
def FnExactFlashViewWrongFalsely : Prop := fnExactFlashViewRow.holds Try.pinned (OpenSpec.ofChange fnExactFlashViewWrong)

/-- 'laws.FnFlashMany': WHATEVER THE INPUT: true; the input reads as it did. -/
def fnFlashManySpec : ChangeSpec := { name := "fnFlashMany", fn := fun _ => fun
  | [d1, d2] => { results := [.lit (.bool true)], args := [d1, d2] }
  | _ => none }
def fnFlashManyRow : OpenClaim := { program := "ytnnanknljpkdeaa", sum := "aa77886b1cbfe9c48b03c74815fddc0664b20eef1d73102041c236e2f8604b7c", func := "loop.example/blockstack/laws.FnFlashMany", spec := "fnFlashMany", unfollowed := true, recurses := true, apart := false }
def FnFlashManySaid : Prop := fnFlashManyRow.holds Try.pinned (OpenSpec.ofChange fnFlashManySpec)

/-- ITS FALSE NEIGHBOUR: 'it returns false'. Refute it at one input. -/
def fnFlashManyWrong : ChangeSpec := { name := "fnFlashMany", fn := fun _ => fun
  | [d1, d2] => { results := [.lit (.bool false)], args := [d1, d2] }
  | _ => none }
def FnFlashManyWrongFalsely : Prop := fnFlashManyRow.holds Try.pinned (OpenSpec.ofChange fnFlashManyWrong)

/-- 'laws.FnFlashView': WHATEVER THE INPUT: true; the input reads as it did. -/
def fnFlashViewSpec : ChangeSpec := { name := "fnFlashView", fn := fun _ => fun
  | [d] => { results := [.lit (.bool true)], args := [d] }
  | _ => none }
def fnFlashViewRow : OpenClaim := { program := "ytnnanknljpkdeaa", sum := "aa77886b1cbfe9c48b03c74815fddc0664b20eef1d73102041c236e2f8604b7c", func := "loop.example/blockstack/laws.FnFlashView", spec := "fnFlashView", unfollowed := true, recurses := true, apart := false }
def FnFlashViewSaid : Prop := fnFlashViewRow.holds Try.pinned (OpenSpec.ofChange fnFlashViewSpec)

/-- ITS FALSE NEIGHBOUR: 'it returns false'. Refute it at one input. -/
def fnFlashViewWrong : ChangeSpec := { name := "fnFlashView", fn := fun _ => fun
  | [d] => { results := [.lit (.bool false)], args := [d] }
  | _ => none }
def FnFlashViewWrongFalsely : Prop := fnFlashViewRow.holds Try.pinned (OpenSpec.ofChange fnFlashViewWrong)

/-- 'laws.FnWearSpread': WHATEVER THE INPUT: true; the input reads as it did. -/
def fnWearSpreadSpec : ChangeSpec := { name := "fnWearSpread", fn := fun _ => fun
  | [d] => { results := [.lit (.bool true)], args := [d] }
  | _ => none }
def fnWearSpreadRow : OpenClaim := { program := "ytnnanknljpkdeaa", sum := "aa77886b1cbfe9c48b03c74815fddc0664b20eef1d73102041c236e2f8604b7c", func := "loop.example/blockstack/laws.FnWearSpread", spec := "fnWearSpread", unfollowed := true, recurses := true, apart := false }
def FnWearSpreadSaid : Prop := fnWearSpreadRow.holds Try.pinned (OpenSpec.ofChange fnWearSpreadSpec)

/-- ITS FALSE NEIGHBOUR: 'it returns false'. Refute it at one input. -/
def fnWearSpreadWrong : ChangeSpec := { name := "fnWearSpread", fn := fun _ => fun
  | [d] => { results := [.lit (.bool false)], args := [d] }
  | _ => none }
def FnWearSpreadWrongFalsely : Prop := fnWearSpreadRow.holds Try.pinned (OpenSpec.ofChange fnWearSpreadWrong)

/-- 'laws.FnNewFlash': WHATEVER THE INPUT: true; the input reads as it did. -/
def fnNewFlashSpec : ChangeSpec := { name := "fnNewFlash", fn := fun _ => fun
  | [d] => { results := [.lit (.bool true)], args := [d] }
  | _ => none }
def fnNewFlashRow : OpenClaim := { program := "ytnnanknljpkdeaa", sum := "aa77886b1cbfe9c48b03c74815fddc0664b20eef1d73102041c236e2f8604b7c", func := "loop.example/blockstack/laws.FnNewFlash", spec := "fnNewFlash", unfollowed := true, recurses := true, apart := false }
def FnNewFlashSaid : Prop := fnNewFlashRow.holds Try.pinned (OpenSpec.ofChange fnNewFlashSpec)

/-- ITS FALSE NEIGHBOUR: 'it returns false'. Refute it at one input. -/
def fnNewFlashWrong : ChangeSpec := { name := "fnNewFlash", fn := fun _ => fun
  | [d] => { results := [.lit (.bool false)], args := [d] }
  | _ => none }
def FnNewFlashWrongFalsely : Prop := fnNewFlashRow.holds Try.pinned (OpenSpec.ofChange fnNewFlashWrong)

/-- 'laws.FnCollectBlock': WHATEVER THE INPUT: true; the input reads as it did. -/
def fnCollectBlockSpec : ChangeSpec := { name := "fnCollectBlock", fn := fun _ => fun
  | [d] => { results := [.lit (.bool true)], args := [d] }
  | _ => none }
def fnCollectBlockRow : OpenClaim := { program := "ytnnanknljpkdeaa", sum := "aa77886b1cbfe9c48b03c74815fddc0664b20eef1d73102041c236e2f8604b7c", func := "loop.example/blockstack/laws.FnCollectBlock", spec := "fnCollectBlock", unfollowed := true, recurses := true, apart := false }
def FnCollectBlockSaid : Prop := fnCollectBlockRow.holds Try.pinned (OpenSpec.ofChange fnCollectBlockSpec)

/-- ITS FALSE NEIGHBOUR: 'it returns false'. Refute it at one input. -/
def fnCollectBlockWrong : ChangeSpec := { name := "fnCollectBlock", fn := fun _ => fun
  | [d] => { results := [.lit (.bool false)], args := [d] }
  | _ => none }
def FnCollectBlockWrongFalsely : Prop := fnCollectBlockRow.holds Try.pinned (OpenSpec.ofChange fnCollectBlockWrong)

/-- 'laws.FnFlashWrite': WHATEVER THE INPUT: true; the input reads as it did. -/
def fnFlashWriteSpec : ChangeSpec := { name := "fnFlashWrite", fn := fun _ => fun
  | [d] => { results := [.lit (.bool true)], args := [d] }
  | _ => none }
def fnFlashWriteRow : OpenClaim := { program := "ytnnanknljpkdeaa", sum := "aa77886b1cbfe9c48b03c74815fddc0664b20eef1d73102041c236e2f8604b7c", func := "loop.example/blockstack/laws.FnFlashWrite", spec := "fnFlashWrite", unfollowed := true, recurses := true, apart := false }
def FnFlashWriteSaid : Prop := fnFlashWriteRow.holds Try.pinned (OpenSpec.ofChange fnFlashWriteSpec)

/-- ITS FALSE NEIGHBOUR: 'it returns false'. Refute it at one input. -/
def fnFlashWriteWrong : ChangeSpec := { name := "fnFlashWrite", fn := fun _ => fun
  | [d] => { results := [.lit (.bool false)], args := [d] }
  | _ => none }
def FnFlashWriteWrongFalsely : Prop := fnFlashWriteRow.holds Try.pinned (OpenSpec.ofChange fnFlashWriteWrong)

/-- 'laws.FnExactCollectBlock': WHATEVER THE INPUT: true; the input reads as it did. -/
def fnExactCollectBlockSpec : ChangeSpec := { name := "fnExactCollectBlock", fn := fun _ => fun
  | [d] => { results := [.lit (.bool true)], args := [d] }
  | _ => none }
def fnExactCollectBlockRow : OpenClaim := { program := "ytnnanknljpkdeaa", sum := "aa77886b1cbfe9c48b03c74815fddc0664b20eef1d73102041c236e2f8604b7c", func := "loop.example/blockstack/laws.FnExactCollectBlock", spec := "fnExactCollectBlock", unfollowed := true, recurses := true, apart := false }
def FnExactCollectBlockSaid : Prop := fnExactCollectBlockRow.holds Try.pinned (OpenSpec.ofChange fnExactCollectBlockSpec)

/-- ITS FALSE NEIGHBOUR: 'it returns false'. Refute it at one input. -/
def fnExactCollectBlockWrong : ChangeSpec := { name := "fnExactCollectBlock", fn := fun _ => fun
  | [d] => { results := [.lit (.bool false)], args := [d] }
  | _ => none }
def FnExactCollectBlockWrongFalsely : Prop := fnExactCollectBlockRow.holds Try.pinned (OpenSpec.ofChange fnExactCollectBlockWrong)

/-- 'laws.FnExactFlashWrite': WHATEVER THE INPUT: true; the input reads as it did. -/
def fnExactFlashWriteSpec : ChangeSpec := { name := "fnExactFlashWrite", fn := fun _ => fun
  | [d1, d2, d3] => { results := [.lit (.bool true)], args := [d1, d2, d3] }
  | _ => none }
def fnExactFlashWriteRow : OpenClaim := { program := "ytnnanknljpkdeaa", sum := "aa77886b1cbfe9c48b03c74815fddc0664b20eef1d73102041c236e2f8604b7c", func := "loop.example/blockstack/laws.FnExactFlashWrite", spec := "fnExactFlashWrite", unfollowed := true, recurses := true, apart := false }
def FnExactFlashWriteSaid : Prop := fnExactFlashWriteRow.holds Try.pinned (OpenSpec.ofChange fnExactFlashWriteSpec)

/-- ITS FALSE NEIGHBOUR: 'it returns false'. Refute it at one input. -/
def fnExactFlashWriteWrong : ChangeSpec := { name := "fnExactFlashWrite", fn := fun _ => fun
  | [d1, d2, d3] => { results := [.lit (.bool false)], args := [d1, d2, d3] }
  | _ => none }
def FnExactFlashWriteWrongFalsely : Prop := fnExactFlashWriteRow.holds Try.pinned (OpenSpec.ofChange fnExactFlashWriteWrong)

/- THE SECOND FORM. 'bulk': how many values and letters a reading holds, each counted each time it is reached (what is shared counts as often as it is met; a slice's spare places count too). A statement '..UptoSaid' is the law's where the arguments, and the package variables that the reading takes, are together of bulk at most 1048576: NARROWER than '..Said'. Prove '..Said' where nothing that the law and all that it calls make is longer than what came in: it says more and counts as full. Else prove '..UptoSaid'. A law counts once. -/
mutual
def uptoBulk {H : Type} : DataW H → Nat
  | .lit (.string bytes) => bytes.length + 1
  | .lit _ => 1
  | .nil => 1
  | .ptr d => uptoBulk d + 1
  | .slice elems spare => uptoBulkAll elems + uptoBulkAll spare + 1
  | .agg parts => uptoBulkAll parts + 1
  | .iface _ d => uptoBulk d + 1
  | .map entries => uptoBulkEntries entries + 1
  | .held _ => 1
def uptoBulkAll {H : Type} : List (DataW H) → Nat
  | [] => 0
  | d :: r => uptoBulk d + uptoBulkAll r
def uptoBulkEntries {H : Type} : List (Lit × DataW H) → Nat
  | [] => 0
  | x :: r => uptoBulkEntry x + uptoBulkEntries r
def uptoBulkEntry {H : Type} : Lit × DataW H → Nat
  | (.string bytes, d) => bytes.length + uptoBulk d + 1
  | (_, d) => uptoBulk d + 1
 end
def uptoSmall : (H : Type) → List (DataW H) → Bool := fun _ ds => decide (uptoBulkAll ds ≤ 1048576)
def OpenSpec.upto (s : _root_.Go.ChangeSpec) : _root_.Go.OpenSpec := { _root_.Go.OpenSpec.ofChange s with cond := some uptoSmall }

/-- 'laws.FnExactFlashValid', WHERE WHAT IT READS IS OF BULK AT MOST 1048576: true; the input reads as it did. -/
def fnExactFlashValidUptoRow : OpenClaim := { program := "ytnnanknljpkdeaa", sum := "aa77886b1cbfe9c48b03c74815fddc0664b20eef1d73102041c236e2f8604b7c", func := "loop.example/blockstack/laws.FnExactFlashValid", spec := "fnExactFlashValid", unfollowed := true, recurses := true, apart := false, narrowed := true }
def FnExactFlashValidUptoSaid : Prop := fnExactFlashValidUptoRow.holds Try.pinned (OpenSpec.upto fnExactFlashValidSpec)

/-- 'laws.FnExactNewFlash', WHERE WHAT IT READS IS OF BULK AT MOST 1048576: true; the input reads as it did. -/
def fnExactNewFlashUptoRow : OpenClaim := { program := "ytnnanknljpkdeaa", sum := "aa77886b1cbfe9c48b03c74815fddc0664b20eef1d73102041c236e2f8604b7c", func := "loop.example/blockstack/laws.FnExactNewFlash", spec := "fnExactNewFlash", apart := false, narrowed := true }
def FnExactNewFlashUptoSaid : Prop := fnExactNewFlashUptoRow.holds Try.pinned (OpenSpec.upto fnExactNewFlashSpec)

/-- 'laws.FnExactWearSpread', WHERE WHAT IT READS IS OF BULK AT MOST 1048576: true; the input reads as it did. -/
def fnExactWearSpreadUptoRow : OpenClaim := { program := "ytnnanknljpkdeaa", sum := "aa77886b1cbfe9c48b03c74815fddc0664b20eef1d73102041c236e2f8604b7c", func := "loop.example/blockstack/laws.FnExactWearSpread", spec := "fnExactWearSpread", unfollowed := true, recurses := true, apart := false, narrowed := true }
def FnExactWearSpreadUptoSaid : Prop := fnExactWearSpreadUptoRow.holds Try.pinned (OpenSpec.upto fnExactWearSpreadSpec)

/-- 'laws.FnFlashValid', WHERE WHAT IT READS IS OF BULK AT MOST 1048576: true; the input reads as it did. -/
def fnFlashValidUptoRow : OpenClaim := { program := "ytnnanknljpkdeaa", sum := "aa77886b1cbfe9c48b03c74815fddc0664b20eef1d73102041c236e2f8604b7c", func := "loop.example/blockstack/laws.FnFlashValid", spec := "fnFlashValid", unfollowed := true, recurses := true, apart := false, narrowed := true }
def FnFlashValidUptoSaid : Prop := fnFlashValidUptoRow.holds Try.pinned (OpenSpec.upto fnFlashValidSpec)

/-- 'laws.FnExactFlashView', WHERE WHAT IT READS IS OF BULK AT MOST 1048576: true; the input reads as it did. -/
def fnExactFlashViewUptoRow : OpenClaim := { program := "ytnnanknljpkdeaa", sum := "aa77886b1cbfe9c48b03c74815fddc0664b20eef1d73102041c236e2f8604b7c", func := "loop.example/blockstack/laws.FnExactFlashView", spec := "fnExactFlashView", unfollowed := true, recurses := true, apart := false, narrowed := true }
def FnExactFlashViewUptoSaid : Prop := fnExactFlashViewUptoRow.holds Try.pinned (OpenSpec.upto fnExactFlashViewSpec)

/-- 'laws.FnFlashMany', WHERE WHAT IT READS IS OF BULK AT MOST 1048576: true; the input reads as it did. -/
def fnFlashManyUptoRow : OpenClaim := { program := "ytnnanknljpkdeaa", sum := "aa77886b1cbfe9c48b03c74815fddc0664b20eef1d73102041c236e2f8604b7c", func := "loop.example/blockstack/laws.FnFlashMany", spec := "fnFlashMany", unfollowed := true, recurses := true, apart := false, narrowed := true }
def FnFlashManyUptoSaid : Prop := fnFlashManyUptoRow.holds Try.pinned (OpenSpec.upto fnFlashManySpec)

/-- 'laws.FnFlashView', WHERE WHAT IT READS IS OF BULK AT MOST 1048576: true; the input reads as it did. -/
def fnFlashViewUptoRow : OpenClaim := { program := "ytnnanknljpkdeaa", sum := "aa77886b1cbfe9c48b03c74815fddc0664b20eef1d73102041c236e2f8604b7c", func := "loop.example/blockstack/laws.FnFlashView", spec := "fnFlashView", unfollowed := true, recurses := true, apart := false, narrowed := true }
def FnFlashViewUptoSaid : Prop := fnFlashViewUptoRow.holds Try.pinned (OpenSpec.upto fnFlashViewSpec)

/-- 'laws.FnWearSpread', WHERE WHAT IT READS IS OF BULK AT MOST 1048576: true; the input reads as it did. -/
def fnWearSpreadUptoRow : OpenClaim := { program := "ytnnanknljpkdeaa", sum := "aa77886b1cbfe9c48b03c74815fddc0664b20eef1d73102041c236e2f8604b7c", func := "loop.example/blockstack/laws.FnWearSpread", spec := "fnWearSpread", unfollowed := true, recurses := true, apart := false, narrowed := true }
def FnWearSpreadUptoSaid : Prop := fnWearSpreadUptoRow.holds Try.pinned (OpenSpec.upto fnWearSpreadSpec)

/-- 'laws.FnNewFlash', WHERE WHAT IT READS IS OF BULK AT MOST 1048576: true; the input reads as it did. -/
def fnNewFlashUptoRow : OpenClaim := { program := "ytnnanknljpkdeaa", sum := "aa77886b1cbfe9c48b03c74815fddc0664b20eef1d73102041c236e2f8604b7c", func := "loop.example/blockstack/laws.FnNewFlash", spec := "fnNewFlash", unfollowed := true, recurses := true, apart := false, narrowed := true }
def FnNewFlashUptoSaid : Prop := fnNewFlashUptoRow.holds Try.pinned (OpenSpec.upto fnNewFlashSpec)

/-- 'laws.FnCollectBlock', WHERE WHAT IT READS IS OF BULK AT MOST 1048576: true; the input reads as it did. -/
def fnCollectBlockUptoRow : OpenClaim := { program := "ytnnanknljpkdeaa", sum := "aa77886b1cbfe9c48b03c74815fddc0664b20eef1d73102041c236e2f8604b7c", func := "loop.example/blockstack/laws.FnCollectBlock", spec := "fnCollectBlock", unfollowed := true, recurses := true, apart := false, narrowed := true }
def FnCollectBlockUptoSaid : Prop := fnCollectBlockUptoRow.holds Try.pinned (OpenSpec.upto fnCollectBlockSpec)

/-- 'laws.FnFlashWrite', WHERE WHAT IT READS IS OF BULK AT MOST 1048576: true; the input reads as it did. -/
def fnFlashWriteUptoRow : OpenClaim := { program := "ytnnanknljpkdeaa", sum := "aa77886b1cbfe9c48b03c74815fddc0664b20eef1d73102041c236e2f8604b7c", func := "loop.example/blockstack/laws.FnFlashWrite", spec := "fnFlashWrite", unfollowed := true, recurses := true, apart := false, narrowed := true }
def FnFlashWriteUptoSaid : Prop := fnFlashWriteUptoRow.holds Try.pinned (OpenSpec.upto fnFlashWriteSpec)

/-- 'laws.FnExactCollectBlock', WHERE WHAT IT READS IS OF BULK AT MOST 1048576: true; the input reads as it did. -/
def fnExactCollectBlockUptoRow : OpenClaim := { program := "ytnnanknljpkdeaa", sum := "aa77886b1cbfe9c48b03c74815fddc0664b20eef1d73102041c236e2f8604b7c", func := "loop.example/blockstack/laws.FnExactCollectBlock", spec := "fnExactCollectBlock", unfollowed := true, recurses := true, apart := false, narrowed := true }
def FnExactCollectBlockUptoSaid : Prop := fnExactCollectBlockUptoRow.holds Try.pinned (OpenSpec.upto fnExactCollectBlockSpec)

/-- 'laws.FnExactFlashWrite', WHERE WHAT IT READS IS OF BULK AT MOST 1048576: true; the input reads as it did. -/
def fnExactFlashWriteUptoRow : OpenClaim := { program := "ytnnanknljpkdeaa", sum := "aa77886b1cbfe9c48b03c74815fddc0664b20eef1d73102041c236e2f8604b7c", func := "loop.example/blockstack/laws.FnExactFlashWrite", spec := "fnExactFlashWrite", unfollowed := true, recurses := true, apart := false, narrowed := true }
def FnExactFlashWriteUptoSaid : Prop := fnExactFlashWriteUptoRow.holds Try.pinned (OpenSpec.upto fnExactFlashWriteSpec)

end Rows
end Go.Proofs.Ytnnanknljpkdeaa
