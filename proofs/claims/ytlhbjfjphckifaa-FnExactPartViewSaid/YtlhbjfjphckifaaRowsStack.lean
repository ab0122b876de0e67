/-
  From a law's argument to a stack. No condition.
-/
import Derived.Test.YtlhbjfjphckifaaBase
import Derived.Test.YtlhbjfjphckifaaNum
import Derived.Test.YtlhbjfjphckifaaInts
import Derived.Test.YtlhbjfjphckifaaApp
import Derived.Test.YtlhbjfjphckifaaIntsW
import Derived.Test.YtlhbjfjphckifaaLib
import Derived.Test.YtlhbjfjphckifaaSpares
import Derived.Test.YtlhbjfjphckifaaOwn
import Derived.Test.YtlhbjfjphckifaaPart
import Derived.Test.YtlhbjfjphckifaaLine
import Derived.Test.YtlhbjfjphckifaaStack
import Derived.Test.YtlhbjfjphckifaaOpen
namespace Go.Proofs.Ytlhbjfjphckifaa
open Go.RowKit Go.ChangeShapes Go.WideShapes Go.ChangeAt Go.Deep Go.Joins
theorem dec_part {H : Type} {enc : TypeId × Value → H} {P : Program} {w : World} {base : Nat} {spare : Nat → Bool} {held : Bool} {e : TypeId} {f0 f1 : Field} (he : P.underlying e = some (.struct #[f0, f1])) (hone : oneCellFields P #[f0, f1] = true) (hC : P.cellsOf e = 2)
    (h0 : P.underlying f0.type = some (.int .i64)) (h1 : P.underlying f1.type = some (.int .i64)) {n : Nat} {cs : List Value} {y : DataW H × List MemPlace} (h : DataW.trod enc P w base spare held n e cs = some y) : ∃ z : Pt, cs = encPartS.cells z := by
  obtain ⟨v0, v1, m, y0, y1, rfl, a0, a1⟩ := dec_struct2 he hone hC h
  obtain ⟨a, rfl⟩ := one_int h0 a0
  obtain ⟨b, rfl⟩ := one_int h1 a1
  exact ⟨⟨a, b⟩, rfl⟩
theorem dec_line {H : Type} {enc : TypeId × Value → H} {P : Program} {w : World} {base : Nat} {spare : Nat → Bool} {held : Bool} {e : TypeId} {f0 f1 f2 : Field} (he : P.underlying e = some (.struct #[f0, f1, f2])) (hone : oneCellFields P #[f0, f1, f2] = true) (hC : P.cellsOf e = 3)
    (h0 : P.underlying f0.type = some (.int .i64)) (h1 : P.underlying f1.type = some (.int .i64)) (h2 : P.underlying f2.type = some .bool) {n : Nat} {cs : List Value} {y : DataW H × List MemPlace} (h : DataW.trod enc P w base spare held n e cs = some y) : ∃ z : Ln, cs = encLineS.cells z := by
  obtain ⟨v0, v1, v2, m, y0, y1, y2, rfl, a0, a1, a2⟩ := dec_struct3 he hone hC h
  obtain ⟨a, rfl⟩ := one_int h0 a0
  obtain ⟨b, rfl⟩ := one_int h1 a1
  obtain ⟨c, rfl⟩ := one_bool h2 a2
  exact ⟨⟨a, b, c⟩, rfl⟩
theorem array4 {cs : Array Value} (h : cs.size = 4) : ∃ a b c d, cs = #[a, b, c, d] := by
  obtain ⟨l⟩ := cs
  match l, h with
  | [a, b, c, d], _ => exact ⟨a, b, c, d, rfl⟩
theorem open_stack {H : Type} {enc : TypeId × Value → H} {P : Program} {w : World} {base : Nat} {spare : Nat → Bool} {held : Bool} {t : TypeId} {f0 f1 f2 g0 g1 p0 p1 l0 l1 l2 : Field} {e0 e1 e2 : TypeId} {v : Value} {d : DataW H} {p : List MemPlace} (hs : P.underlying t = some (.struct #[f0, f1, f2])) (hs2 : P.underlying f2.type = some (.struct #[g0, g1]))
    (hC : P.cellsOf t = 4) (hoff : (f0.offset = 0 ∧ P.cellsOf f0.type = 1) ∧ (f1.offset = 1 ∧ P.cellsOf f1.type = 1) ∧ f2.offset = 2) (hC2 : P.cellsOf f2.type = 2) (hone2 : oneCellFields P #[g0, g1] = true)
    (h0 : P.underlying f0.type = some (.slice e0)) (he0 : P.underlying e0 = some (.int .i64)) (hCe : P.cellsOf e0 = 1)
    (h1 : P.underlying f1.type = some (.slice e1)) (hr : P.underlying e1 = some (.struct #[p0, p1])) (hro : oneCellFields P #[p0, p1] = true) (hrC : P.cellsOf e1 = 2) (hr0 : P.underlying p0.type = some (.int .i64)) (hr1 : P.underlying p1.type = some (.int .i64))
    (h2 : P.underlying g0.type = some (.slice e2)) (hq : P.underlying e2 = some (.struct #[l0, l1, l2])) (hqo : oneCellFields P #[l0, l1, l2] = true) (hqC : P.cellsOf e2 = 3) (hq0 : P.underlying l0.type = some (.int .i64)) (hq1 : P.underlying l1.type = some (.int .i64)) (hq2 : P.underlying l2.type = some .bool)
    (h3 : P.underlying g1.type = some (.int .i64))
    (hv : Value.okWide P w .any 0 t v) (h : DataW.Trod enc P w base spare held t v d p) : ∃ x0 x1 x2 x3 m, v = .agg #[x0, x1, x2, x3] ∧ StackRd w [x0, x1, x2, x3] m := by
  obtain ⟨cs, rfl, hsz⟩ := okWide_struct hs hv
  obtain ⟨v0, v1, v2, v3, rfl⟩ := array4 (hsz.trans hC)
  obtain ⟨fuel, hf⟩ := h
  obtain ⟨y0, y1, y2, n, hx, _, ha, hb, hc⟩ := trod_struct3 hs hf
  obtain ⟨⟨o0, k0⟩, ⟨o1, k1⟩, o2⟩ := hoff
  replace ha : DataW.trod enc P w base spare held n f0.type [v0] = some y0 := by simpa [Value.cells, o0, k0] using ha
  replace hb : DataW.trod enc P w base spare held n f1.type [v1] = some y1 := by simpa [Value.cells, o1, k1] using hb
  replace hc : DataW.trod enc P w base spare held n f2.type [v2, v3] = some y2 := by simpa [Value.cells, o2, hC2] using hc
  obtain ⟨u0, u1, m, z0, z1, hcs, hd, he⟩ := dec_struct2 hs2 hone2 hC2 hc
  simp only [List.cons.injEq, and_true] at hcs
  obtain ⟨rfl, rfl⟩ := hcs
  obtain ⟨A, c, l, rfl, hl, hm, hr2, hn⟩ := read_ints h0 he0 hCe ha
  obtain ⟨A', c', l', rfl, hl', hm', hr', hn'⟩ := open_slice_rd encPartS h1 hrC (fun n cs y hy => dec_part hr hro hrC hr0 hr1 hy) hb
  obtain ⟨A2, c2, l2, rfl, hl2, hm2, hr3, hn2⟩ := open_slice_rd encLineS h2 hqC (fun n cs y hy => dec_line hq hqo hqC hq0 hq1 hq2 hy) hd
  obtain ⟨k, rfl, _⟩ := read_int h3 he
  exact ⟨_, _, _, _, ⟨l, l', l2, k⟩, rfl, _, _, _, rfl, SRd.of hr2 hl (Nat.le_trans hl hm) hn, SRd.of hr' hl' (Nat.le_trans hl' hm') hn', SRd.of hr3 hl2 (Nat.le_trans hl2 hm2) hn2⟩
end Go.Proofs.Ytlhbjfjphckifaa
