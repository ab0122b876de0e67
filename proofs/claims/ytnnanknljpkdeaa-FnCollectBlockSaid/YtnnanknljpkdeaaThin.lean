/-
  Thin volumes: the helpers' contracts. Conditions: lengths at most 2^40.
-/
import Derived.Test.YtnnanknljpkdeaaBase
import Derived.Test.YtnnanknljpkdeaaNum
import Derived.Test.YtnnanknljpkdeaaInts
import Derived.Test.YtnnanknljpkdeaaApp
import Derived.Test.YtnnanknljpkdeaaIntsW
import Derived.Test.YtnnanknljpkdeaaLib
import Derived.Test.YtnnanknljpkdeaaOwn
namespace Go.Proofs.Ytnnanknljpkdeaa
open Go.RowKit
structure Th where
  whr : List Int
  pool : List Int
deriving DecidableEq
def ThinRd (w : World) (xs : List Value) (t : Th) : Prop := ∃ u v, xs = [u, v] ∧ SRd encIntS w u t.whr ∧ SRd encIntS w v t.pool
def ThinOwn (B : Nat) (w : World) (C : Nat) (xs : List Value) (t : Th) : Prop := ∃ u v, xs = [u, v] ∧ SOwn encIntS tyIntS B w C u t.whr ∧ SOwn encIntS tyIntS B w C v t.pool ∧ Apart u v
def sizeThin (t : Th) : Nat := t.whr.length + t.pool.length
def cntThin (t : Th) : Nat := 1 * t.whr.length + 1 * t.pool.length
theorem cntThin_le (t : Th) : cntThin t ≤ 3 * sizeThin t := by unfold cntThin sizeThin; omega
def markedThin (t : Th) (k : Int) : Th := ⟨marksIntS t.whr.length k, marksIntS t.pool.length (k + 1 * t.whr.length)⟩
section
variable {w w' : World} {xs : List Value} {t : Th} {B C : Nat}
theorem ThinRd.below (h : ThinRd w xs t) (hb : Below w.heap.size w w') : ThinRd w' xs t := by
  obtain ⟨u, v, h1, h2, h3⟩ := h
  exact ⟨u, v, h1, h2.below hb, h3.below hb⟩
theorem ThinRd.gin {w0 : World} (h : ThinRd w xs t) (h0 : ThinRd w0 xs t) (hg : GIn B C w w') (hB : w0.heap.size ≤ B) : ThinRd w' xs t := by
  obtain ⟨u, v, h1, h2, h3⟩ := h
  obtain ⟨u', v', h1', h2', h3'⟩ := h0
  rw [h1] at h1'
  simp only [List.cons.injEq, and_true] at h1'
  obtain ⟨rfl, rfl⟩ := h1'
  exact ⟨u, v, h1, h2.gin h2' hg hB, h3.gin h3' hg hB⟩
theorem ThinOwn.rd (h : ThinOwn B w C xs t) : ThinRd w xs t := by
  obtain ⟨u, v, h1, h2, h3, _⟩ := h
  exact ⟨u, v, h1, h2.rd, h3.rd⟩
theorem ThinOwn.one (h : ThinOwn B w C xs t) : ∀ v ∈ xs, v.oneCell' = true := by
  obtain ⟨u, v, rfl, ⟨A, c, g, rfl, _⟩, ⟨A', c', g', rfl, _⟩, _⟩ := h
  simp [Value.oneCell']
theorem ThinRd.one (h : ThinRd w xs t) : ∀ v ∈ xs, v.oneCell' = true := by
  obtain ⟨u, v, rfl, ⟨A, c, rfl, _⟩, ⟨A', c', rfl, _⟩⟩ := h
  simp [Value.oneCell']
theorem ThinOwn.below (h : ThinOwn B w C xs t) (hb : Below w.heap.size w w') : ThinOwn B w' C xs t := by
  obtain ⟨u, v, h1, h2, h3, h4⟩ := h
  exact ⟨u, v, h1, h2.below hb, h3.below hb, h4⟩
theorem ThinOwn.gin {B' C' : Nat} (h : ThinOwn B w C xs t) (hg : GIn B' C' w w') (hd : C ≤ B' ∨ C' ≤ B) : ThinOwn B w' C xs t := by
  obtain ⟨u, v, h1, h2, h3, h4⟩ := h
  exact ⟨u, v, h1, h2.gin hg hd, h3.gin hg hd, h4⟩
end
def MadeThin (t : Th) (w : World) (en : Ending) (w' : World) : Prop := ∃ y0 y1, en = .returned (.agg #[y0, y1]) ∧ ThinOwn w.heap.size w' w'.heap.size [y0, y1] t ∧ Below w.heap.size w w'
def MadeThinB (t : Th) (ok : Bool) (w : World) (en : Ending) (w' : World) : Prop := ∃ y0 y1, en = .returned (.tuple #[.agg #[y0, y1], .bool ok]) ∧ ThinOwn w.heap.size w' w'.heap.size [y0, y1] t ∧ Below w.heap.size w w'
end Go.Proofs.Ytnnanknljpkdeaa
