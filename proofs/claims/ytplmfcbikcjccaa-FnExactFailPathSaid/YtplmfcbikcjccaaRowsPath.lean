/-
  From a law's argument to a list of paths. No condition.
-/
import Derived.Test.YtplmfcbikcjccaaBase
import Derived.Test.YtplmfcbikcjccaaNum
import Derived.Test.YtplmfcbikcjccaaInts
import Derived.Test.YtplmfcbikcjccaaApp
import Derived.Test.YtplmfcbikcjccaaIntsW
import Derived.Test.YtplmfcbikcjccaaLib
import Derived.Test.YtplmfcbikcjccaaPathM
import Derived.Test.YtplmfcbikcjccaaPath
import Derived.Test.YtplmfcbikcjccaaPathC
import Derived.Test.YtplmfcbikcjccaaOpen
namespace Go.Proofs.Ytplmfcbikcjccaa
open Go.RowKit Go.ChangeShapes Go.WideShapes Go.ChangeAt Go.Deep Go.Joins
theorem dec_path {H : Type} {enc : TypeId × Value → H} {P : Program} {w : World} {base : Nat} {spare : Nat → Bool} {held : Bool} {e : TypeId} {f0 f1 : Field} (he : P.underlying e = some (.struct #[f0, f1])) (hone : oneCellFields P #[f0, f1] = true) (hC : P.cellsOf e = 2)
    (h0 : P.underlying f0.type = some .bool) (h1 : P.underlying f1.type = some (.int .i64)) {n : Nat} {cs : List Value} {y : DataW H × List MemPlace} (h : DataW.trod enc P w base spare held n e cs = some y) : ∃ z : Pth, cs = ePath.cells z := by
  obtain ⟨v0, v1, m, y0, y1, rfl, a0, a1⟩ := dec_struct2 he hone hC h
  obtain ⟨a, rfl⟩ := one_bool h0 a0
  obtain ⟨b, rfl⟩ := one_int h1 a1
  exact ⟨⟨a, b⟩, rfl⟩
end Go.Proofs.Ytplmfcbikcjccaa
