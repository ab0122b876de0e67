/-
  What the draw of a disk gives. Conditions: the count of draws stays below 10^9.
-/
import Derived.Test.YtlhbjfjphckifaaBase
import Derived.Test.YtlhbjfjphckifaaNum
import Derived.Test.YtlhbjfjphckifaaInts
import Derived.Test.YtlhbjfjphckifaaApp
import Derived.Test.YtlhbjfjphckifaaIntsW
import Derived.Test.YtlhbjfjphckifaaLib
import Derived.Test.YtlhbjfjphckifaaDraw
import Derived.Test.YtlhbjfjphckifaaDrawK
import Derived.Test.YtlhbjfjphckifaaOwn
import Derived.IntWalk
namespace Go.Proofs.Ytlhbjfjphckifaa
open Go.RowKit
set_option maxHeartbeats 400000 in
theorem odd_zero (B R : Nat) (p : Int) (w : World) (_h : Rdr w 115 B R p) :
    Calls Try.prog 107 #[.pointer (some ⟨R, 0, none⟩), .int .i64 0] w fun e w' => e = .returned (.bool false) ∧ w = w' := by
  go_enter Try.func107, Try.ntmps107
  go_wp2
  go_ret
  exact ⟨rfl, rfl⟩
end Go.Proofs.Ytlhbjfjphckifaa
