/-
  Contracts of the functions on slices of int that make or write memory. Conditions: lengths at most 2^40.
-/
import Derived.Test.YtplmfcbikcjccaaBase
import Derived.Test.YtplmfcbikcjccaaNum
import Derived.Test.YtplmfcbikcjccaaInts
import Derived.Test.YtplmfcbikcjccaaApp
namespace Go.Proofs.Ytplmfcbikcjccaa
open Go.RowKit
/-- A fresh slice comes back. -/
def Fresh {α : Type} (E : Enc α) (e : TypeId) (l : List α) (w : World) (en : Ending) (w' : World) : Prop :=
  ∃ A c g, en = .returned (.slice A l.length c) ∧ w.heap.size ≤ g ∧ Row E w' g e A c l ∧ Below w.heap.size w w'
/-- A fresh slice that is not nil comes back. -/
def FreshS {α : Type} (E : Enc α) (e : TypeId) (l : List α) (w : World) (en : Ending) (w' : World) : Prop :=
  ∃ A c g, en = .returned (.slice A l.length c) ∧ w.heap.size ≤ g ∧ g < w'.heap.size ∧ Row E w' g e A c l ∧ Below w.heap.size w w'
theorem FreshS.weak {α : Type} {E : Enc α} {e : TypeId} {l : List α} {w : World} (en : Ending) (w' : World) (h : FreshS E e l w en w') : Fresh E e l w en w' := by
  obtain ⟨A, c, g, h1, h2, _, h3, h4⟩ := h
  exact ⟨A, c, g, h1, h2, h3, h4⟩
theorem Row.some_lt {α : Type} {E : Enc α} {w : World} {g : Nat} {e : TypeId} {ad : Addr} {c : Nat} {l : List α} (h : Row E w g e (some ad) c l) : g < w.heap.size := by
  rcases h.made? with h | h
  · cases h
  · exact h
def marks (n : Nat) (k : Int) : List Int := (List.range n).map fun i => k + (i : Nat)
theorem marks_length (n : Nat) (k : Int) : (marks n k).length = n := by simp [marks]
theorem marks_get (n : Nat) (k : Int) (i : Nat) (h : i < (marks n k).length) : (marks n k)[i]'h = k + (i : Nat) := by simp [marks]
theorem eq_of_upto {α : Type} {l m : List α} (h1 : l.length = m.length) (h : ∀ t (h1 : t < l.length) (h2 : t < m.length), l[t] = m[t]) : l = m := List.ext_getElem h1 h
end Go.Proofs.Ytplmfcbikcjccaa
