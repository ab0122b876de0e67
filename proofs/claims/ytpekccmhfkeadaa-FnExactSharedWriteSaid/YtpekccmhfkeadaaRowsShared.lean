/-
  From a law's argument to a shared volume. No condition.
-/
import Derived.Test.YtpekccmhfkeadaaBase
import Derived.Test.YtpekccmhfkeadaaNum
import Derived.Test.YtpekccmhfkeadaaInts
import Derived.Test.YtpekccmhfkeadaaApp
import Derived.Test.YtpekccmhfkeadaaIntsW
import Derived.Test.YtpekccmhfkeadaaLib
import Derived.Test.YtpekccmhfkeadaaSpares
import Derived.Test.YtpekccmhfkeadaaOwn
import Derived.Test.YtpekccmhfkeadaaCopy
import Derived.Test.YtpekccmhfkeadaaShared
import Derived.Test.YtpekccmhfkeadaaOpen
namespace Go.Proofs.Ytpekccmhfkeadaa
open Go.RowKit Go.ChangeShapes Go.WideShapes Go.ChangeAt Go.Deep Go.Joins
theorem dec_copy {H : Type} {enc : TypeId × Value → H} {P : Program} {w : World} {base : Nat} {spare : Nat → Bool} {held : Bool} {e : TypeId} {f0 f1 : Field} (he : P.underlying e = some (.struct #[f0, f1])) (hone : oneCellFields P #[f0, f1] = true) (hC : P.cellsOf e = 2)
    (h0 : P.underlying f0.type = some (.int .i64)) (h1 : P.underlying f1.type = some (.int .i64)) {n : Nat} {cs : List Value} {y : DataW H × List MemPlace} (h : DataW.trod enc P w base spare held n e cs = some y) : ∃ z : Cp, cs = encCopyS.cells z := by
  obtain ⟨v0, v1, m, y0, y1, rfl, a0, a1⟩ := dec_struct2 he hone hC h
  obtain ⟨a, rfl⟩ := one_int h0 a0
  obtain ⟨b, rfl⟩ := one_int h1 a1
  exact ⟨⟨a, b⟩, rfl⟩
theorem open_shared {H : Type} {enc : TypeId × Value → H} {P : Program} {w : World} {base : Nat} {spare : Nat → Bool} {held : Bool} {t : TypeId} {f0 f1 g0 g1 : Field} {e e' : TypeId} {v : Value} {d : DataW H} {p : List MemPlace} (hs : P.underlying t = some (.struct #[f0, f1])) (hone : oneCellFields P #[f0, f1] = true) (hC : P.cellsOf t = 2)
    (h0 : P.underlying f0.type = some (.slice e)) (he : P.underlying e = some (.int .i64)) (hCe : P.cellsOf e = 1)
    (h1 : P.underlying f1.type = some (.slice e')) (hr : P.underlying e' = some (.struct #[g0, g1])) (hro : oneCellFields P #[g0, g1] = true) (hrC : P.cellsOf e' = 2) (hr0 : P.underlying g0.type = some (.int .i64)) (hr1 : P.underlying g1.type = some (.int .i64))
    (hv : Value.okWide P w .any 0 t v) (h : DataW.Trod enc P w base spare held t v d p) : ∃ x0 x1 m, v = .agg #[x0, x1] ∧ SharedRd w [x0, x1] m := by
  obtain ⟨v0, v1, y0, y1, n, rfl, _, _, ha, hb⟩ := open_agg2 hs hone hC hv h
  obtain ⟨A, c, l, rfl, hl, hm, hr2, hn⟩ := read_ints h0 he hCe ha
  obtain ⟨A', c', l', rfl, hl', hm', hr', hn'⟩ := open_slice_rd encCopyS h1 hrC (fun n cs y hy => dec_copy hr hro hrC hr0 hr1 hy) hb
  exact ⟨_, _, ⟨l, l'⟩, rfl, _, _, rfl, SRd.of hr2 hl (Nat.le_trans hl hm) hn, SRd.of hr' hl' (Nat.le_trans hl' hm') hn'⟩
end Go.Proofs.Ytpekccmhfkeadaa
