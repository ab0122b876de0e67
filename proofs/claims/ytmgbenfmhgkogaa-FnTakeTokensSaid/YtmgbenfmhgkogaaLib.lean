/-
  Contracts of the functions of package slices at the types of this program. Conditions: lengths at most 2^40.
-/
import Derived.Test.YtmgbenfmhgkogaaBase
import Derived.Test.YtmgbenfmhgkogaaNum
import Derived.Test.YtmgbenfmhgkogaaInts
import Derived.Test.YtmgbenfmhgkogaaApp
import Derived.Test.YtmgbenfmhgkogaaIntsW
namespace Go.Proofs.Ytmgbenfmhgkogaa
open Go.RowKit
theorem nil_eq {P : Program} (w : World) {t e : TypeId} (h : P.underlying t = some (.slice e)) (a : Option Addr) (l c : Nat) : (binOp .eql t (.slice a l c) (.slice none 0 0)).run P w = .ok (.bool a.isNone) w :=
  Lib.run_eql_slice_nil w t e a l c 0 0 h
/-- The first place of x in l, or -1. -/
def idx (l : List Int) (x : Int) : Int := match l.findIdx? (· == x) with | some k => (k : Int) | none => -1
theorem idx_no {l : List Int} {x : Int} (h : ∀ k (hk : k < l.length), l[k] ≠ x) : idx l x = -1 := by
  have : l.findIdx? (· == x) = none := by
    rw [List.findIdx?_eq_none_iff]
    intro y hy
    obtain ⟨k, hk, rfl⟩ := List.getElem_of_mem hy
    simpa using h k hk
  simp [idx, this]
theorem idx_at {l : List Int} {x : Int} {k : Nat} (hk : k < l.length) (he : l[k] = x) (h : ∀ j (hj : j < k), l[j] ≠ x) : idx l x = (k : Int) := by
  have : l.findIdx? (· == x) = some k := by
    rw [List.findIdx?_eq_some_iff_getElem]
    exact ⟨hk, by simpa using he, fun j hj => by simpa using h j hj⟩
  simp [idx, this]
theorem idx_neg {l : List Int} {x : Int} : idx l x < 0 ↔ x ∉ l := by
  unfold idx
  split
  · rename_i k hk
    rw [List.findIdx?_eq_some_iff_getElem] at hk
    obtain ⟨hk, he, _⟩ := hk
    have : x ∈ l := by rw [← eq_of_beq he]; exact List.getElem_mem hk
    constructor
    · intro h; omega
    · intro h; exact absurd this h
  · rename_i hn
    rw [List.findIdx?_eq_none_iff] at hn
    constructor
    · intro _ hm
      have := hn x hm
      simp at this
    · intro _; omega
theorem idx_le (l : List Int) (x : Int) : -1 ≤ idx l x ∧ idx l x < l.length := by
  unfold idx
  split
  · rename_i k hk
    rw [List.findIdx?_eq_some_iff_getElem] at hk
    obtain ⟨hk, _⟩ := hk
    omega
  · omega
theorem idx_get {l : List Int} {x : Int} (h : 0 ≤ idx l x) : ∃ k : Nat, idx l x = k ∧ ∃ hk : k < l.length, l[k] = x ∧ ∀ j (hj : j < k), l[j] ≠ x := by
  revert h
  unfold idx
  split
  · rename_i k hk
    rw [List.findIdx?_eq_some_iff_getElem] at hk
    obtain ⟨hk, he, hj⟩ := hk
    intro _
    exact ⟨k, rfl, hk, eq_of_beq he, fun j hjk => by simpa using hj j hjk⟩
  · intro h; omega
end Go.Proofs.Ytmgbenfmhgkogaa
