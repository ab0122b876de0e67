/-
  Contracts of the functions on lists of spare sectors. Conditions: lengths at most 2^40.
-/
import Derived.Test.YtnnanknljpkdeaaBase
import Derived.Test.YtnnanknljpkdeaaNum
import Derived.Test.YtnnanknljpkdeaaInts
import Derived.Test.YtnnanknljpkdeaaApp
import Derived.Test.YtnnanknljpkdeaaIntsW
import Derived.Test.YtnnanknljpkdeaaLib
namespace Go.Proofs.Ytnnanknljpkdeaa
open Go.RowKit
/-- the first n numbers all meet p -/
def allK (n : Nat) (p : Nat → Bool) : Bool := (List.range n).all p
theorem allK_iff {n : Nat} {p : Nat → Bool} : allK n p = true ↔ ∀ k, k < n → p k = true := by simp [allK]
theorem allK_succ {k : Nat} {p : Nat → Bool} (h : allK k p = true) (hp : p k = true) : allK (k + 1) p = true := by
  rw [allK_iff] at h ⊢
  intro j hj
  by_cases hjk : j = k
  · rw [hjk]; exact hp
  · exact h j (by omega)
theorem allK_no {n k : Nat} {p : Nat → Bool} (hk : k < n) (hp : p k = false) : allK n p = false := by
  cases h : allK n p
  · rfl
  · rw [allK_iff] at h
    rw [h k hk] at hp
    cases hp
structure Sp where
  sec : Int
  cnt : Int
  bad : List Int
deriving DecidableEq
def badOk (sec : Int) (l : List Int) (k : Nat) : Bool := inB (l.getD k 0) 0 (sec + k - 1) && !decide (l.getD k 0 ∈ l.take k)
theorem badOk_get {sec : Int} {l : List Int} {k : Nat} (hk : k < l.length) : badOk sec l k = (inB l[k] 0 (sec + k - 1) && !decide (l[k] ∈ l.take k)) := by simp [badOk, hk]
def sparesB (s : Sp) : Bool := inB s.sec 1 100000 && inB s.cnt 0 16 && decide ((s.bad.length : Int) ≤ s.cnt) && allK s.bad.length (badOk s.sec s.bad)
/-- none of the first j numbers is the k-th -/
def newUpTo (l : List Int) (k j : Nat) : Prop := ∀ i (hi : i < l.length) (hk : k < l.length), i < j → l[i] ≠ l[k]
theorem not_mem_take {l : List Int} {k : Nat} (hk : k < l.length) (h : newUpTo l k k) : decide (l[k] ∈ l.take k) = false := by
  rw [decide_eq_false_iff_not]
  intro hm
  obtain ⟨i, hi, he⟩ := List.getElem_of_mem hm
  have hil : i < l.length := by simp at hi; omega
  have hik : i < k := by simp at hi; omega
  rw [List.getElem_take] at he
  exact h i hil hk hik he
theorem mem_take {l : List Int} {k i : Nat} (hk : k < l.length) (hi : i < l.length) (hik : i < k) (he : l[i] = l[k]) : decide (l[k] ∈ l.take k) = true := by
  rw [decide_eq_true_iff, ← he]
  exact List.mem_take_iff_getElem.2 ⟨i, by omega, rfl⟩
/-- A fresh list of spare sectors comes back, with a slice that is not nil. -/
def FreshSpS (e : TypeId) (s : Sp) (w : World) (en : Ending) (w' : World) : Prop :=
  ∃ A c g, en = .returned (.agg #[.int .i64 s.sec, .int .i64 s.cnt, .slice A s.bad.length c]) ∧ w.heap.size ≤ g ∧ g < w'.heap.size ∧ Row eInt w' g e A c s.bad ∧ Below w.heap.size w w'
/-- A fresh list of spare sectors comes back. -/
def FreshSp (e : TypeId) (s : Sp) (w : World) (en : Ending) (w' : World) : Prop :=
  ∃ A c g, en = .returned (.agg #[.int .i64 s.sec, .int .i64 s.cnt, .slice A s.bad.length c]) ∧ w.heap.size ≤ g ∧ Row eInt w' g e A c s.bad ∧ Below w.heap.size w w'
end Go.Proofs.Ytnnanknljpkdeaa
