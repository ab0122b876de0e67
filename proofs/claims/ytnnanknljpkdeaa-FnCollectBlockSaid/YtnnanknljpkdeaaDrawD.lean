/-
  What the draw of a disk gives. Conditions: the count of draws stays below 10^9.
-/
import Derived.Test.YtnnanknljpkdeaaBase
import Derived.Test.YtnnanknljpkdeaaNum
import Derived.Test.YtnnanknljpkdeaaInts
import Derived.Test.YtnnanknljpkdeaaApp
import Derived.Test.YtnnanknljpkdeaaIntsW
import Derived.Test.YtnnanknljpkdeaaLib
import Derived.Test.YtnnanknljpkdeaaDraw
import Derived.Test.YtnnanknljpkdeaaDrawK
import Derived.Test.YtnnanknljpkdeaaOwn
import Derived.IntWalk
namespace Go.Proofs.Ytnnanknljpkdeaa
open Go.RowKit
set_option maxHeartbeats 400000 in
theorem odd_zero (B R : Nat) (p : Int) (w : World) (_h : Rdr w 82 B R p) :
    Calls Try.prog 78 #[.pointer (some ⟨R, 0, none⟩), .int .i64 0] w fun e w' => e = .returned (.bool false) ∧ w = w' := by
  go_enter Try.func78, Try.ntmps78
  go_wp2
  go_ret
  exact ⟨rfl, rfl⟩
end Go.Proofs.Ytnnanknljpkdeaa
