/-
  What the draw of a disk gives. Conditions: the count of draws stays below 10^9.
-/
import Derived.Test.YtkejdgegkbfofaaBase
import Derived.Test.YtkejdgegkbfofaaNum
import Derived.Test.YtkejdgegkbfofaaInts
import Derived.Test.YtkejdgegkbfofaaApp
import Derived.Test.YtkejdgegkbfofaaIntsW
import Derived.Test.YtkejdgegkbfofaaLib
import Derived.Test.YtkejdgegkbfofaaDraw
import Derived.Test.YtkejdgegkbfofaaDrawK
import Derived.Test.YtkejdgegkbfofaaOwn
import Derived.IntWalk
namespace Go.Proofs.Ytkejdgegkbfofaa
open Go.RowKit
set_option maxHeartbeats 400000 in
theorem odd_zero (B R : Nat) (p : Int) (w : World) (_h : Rdr w 63 B R p) :
    Calls Try.prog 51 #[.pointer (some ⟨R, 0, none⟩), .int .i64 0] w fun e w' => e = .returned (.bool false) ∧ w = w' := by
  go_enter Try.func51, Try.ntmps51
  go_wp2
  go_ret
  exact ⟨rfl, rfl⟩
end Go.Proofs.Ytkejdgegkbfofaa
