/-
  Contracts of the functions of package slices at the types of this program. Conditions: lengths at most 2^40.
-/
import Derived.Test.YtnnanknljpkdeaaBase
import Derived.Test.YtnnanknljpkdeaaNum
import Derived.Test.YtnnanknljpkdeaaInts
import Derived.Test.YtnnanknljpkdeaaApp
import Derived.Test.YtnnanknljpkdeaaIntsW
namespace Go.Proofs.Ytnnanknljpkdeaa
open Go.RowKit
theorem nil_eq {P : Program} (w : World) {t e : TypeId} (h : P.underlying t = some (.slice e)) (a : Option Addr) (l c : Nat) : (binOp .eql t (.slice a l c) (.slice none 0 0)).run P w = .ok (.bool a.isNone) w :=
  Lib.run_eql_slice_nil w t e a l c 0 0 h
set_option maxHeartbeats 1000000 in
theorem cloneInts_any (A : Option Addr) (c : Nat) (l : List Int) (w : World) (ha : Rd eInt w A l) (hl : l.length ≤ 1099511627776) (hnil : A = none → c = 0) :
    Calls Try.prog 72 #[.slice A l.length c] w (Fresh eInt 3 l w) := by
  by_cases hA : A = none
  · subst hA
    have hl0 : l = [] := by
      rcases Nat.eq_zero_or_pos l.length with h0 | h0
      · exact List.eq_nil_of_length_eq_zero h0
      · obtain ⟨_, _, h, _⟩ := ha h0
        cases h
    subst hl0
    have hc0 := hnil rfl
    subst hc0
    have heq := fun (w : World) => nil_eq w el_int.1 none 0 0
    go_enter Try.func72, Try.ntmps72
    go_wp2
    go_ret
    exact ⟨none, 0, w.heap.size, rfl, Nat.le_refl _, Row.nil _ _ _, Below.refl _ _⟩
  · obtain ⟨ad, rfl⟩ := Option.ne_none_iff_exists'.1 hA
    have hrow := Row.made (E := eInt) w 3 #[] [] 0 rfl (Nat.le_refl _) (by decide) rfl
    have hra := Rd.alloc ha (.cells #[] 3)
    have HR := Lib.hid hrow
    have HA := Lib.hid hra
    clear hrow hra
    have heq := fun (w : World) => nil_eq w el_int.1 (some ad) l.length c
    go_enter Try.func72, Try.ntmps72
    go_wp2_with (at_builtin; refine wpList_append_row rfl _ _ rfl el_int rfl HR.out _ _ l rfl HA.out (by simp only [maxLen, List.length_nil]; omega) (by simp only [List.length_nil]; omega) ?_; intro A' c' g' w' l' hl' hle1 hle2 hrow' hg' hgg')
    have e1 := hl'.out
    simp only [List.nil_append] at e1
    subst e1
    go_ret
    refine ⟨A', c', g', rfl, ?_, hrow', ?_⟩
    · simp at hgg'; omega
    · exact Below.grown1 ((by repeat (first | with_reducible exact Below.refl _ _ | with_reducible assumption | with_reducible refine below_drewN ?_ _ | with_reducible refine Below.drew ?_ | with_reducible refine Below.alloc ?_ ?_ _ | with_reducible refine Below.setCell ?_ ?_ _ | (with_reducible refine Below.next ?_ (by assumption)) | omega | (focus (simp; omega)) | (focus (simp; done))))) hg' (by simp) (by simp)
/-- The first place of x in l, or -1. -/
def idx (l : List Int) (x : Int) : Int := match l.findIdx? (· == x) with | some k => (k : Int) | none => -1
theorem idx_no {l : List Int} {x : Int} (h : ∀ k (hk : k < l.length), l[k] ≠ x) : idx l x = -1 := by
  have : l.findIdx? (· == x) = none := by
    rw [List.findIdx?_eq_none_iff]
    intro y hy
    obtain ⟨k, hk, rfl⟩ := List.getElem_of_mem hy
    simpa using h k hk
  simp [idx, this]
theorem idx_at {l : List Int} {x : Int} {k : Nat} (hk : k < l.length) (he : l[k] = x) (h : ∀ j (hj : j < k), l[j] ≠ x) : idx l x = (k : Int) := by
  have : l.findIdx? (· == x) = some k := by
    rw [List.findIdx?_eq_some_iff_getElem]
    exact ⟨hk, by simpa using he, fun j hj => by simpa using h j hj⟩
  simp [idx, this]
theorem idx_neg {l : List Int} {x : Int} : idx l x < 0 ↔ x ∉ l := by
  unfold idx
  split
  · rename_i k hk
    rw [List.findIdx?_eq_some_iff_getElem] at hk
    obtain ⟨hk, he, _⟩ := hk
    have : x ∈ l := by rw [← eq_of_beq he]; exact List.getElem_mem hk
    constructor
    · intro h; omega
    · intro h; exact absurd this h
  · rename_i hn
    rw [List.findIdx?_eq_none_iff] at hn
    constructor
    · intro _ hm
      have := hn x hm
      simp at this
    · intro _; omega
theorem idx_le (l : List Int) (x : Int) : -1 ≤ idx l x ∧ idx l x < l.length := by
  unfold idx
  split
  · rename_i k hk
    rw [List.findIdx?_eq_some_iff_getElem] at hk
    obtain ⟨hk, _⟩ := hk
    omega
  · omega
theorem idx_get {l : List Int} {x : Int} (h : 0 ≤ idx l x) : ∃ k : Nat, idx l x = k ∧ ∃ hk : k < l.length, l[k] = x ∧ ∀ j (hj : j < k), l[j] ≠ x := by
  revert h
  unfold idx
  split
  · rename_i k hk
    rw [List.findIdx?_eq_some_iff_getElem] at hk
    obtain ⟨hk, he, hj⟩ := hk
    intro _
    exact ⟨k, rfl, hk, eq_of_beq he, fun j hjk => by simpa using hj j hjk⟩
  · intro h; omega
end Go.Proofs.Ytnnanknljpkdeaa
