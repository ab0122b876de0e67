/-
  Contracts of the functions of package slices at the types of this program. Conditions: lengths at most 2^40.
-/
import Derived.Test.YtkejdgegkbfofaaBase
import Derived.Test.YtkejdgegkbfofaaNum
import Derived.Test.YtkejdgegkbfofaaInts
import Derived.Test.YtkejdgegkbfofaaApp
import Derived.Test.YtkejdgegkbfofaaIntsW
namespace Go.Proofs.Ytkejdgegkbfofaa
open Go.RowKit
theorem nil_eq {P : Program} (w : World) {t e : TypeId} (h : P.underlying t = some (.slice e)) (a : Option Addr) (l c : Nat) : (binOp .eql t (.slice a l c) (.slice none 0 0)).run P w = .ok (.bool a.isNone) w :=
  Lib.run_eql_slice_nil w t e a l c 0 0 h
set_option maxHeartbeats 1000000 in
theorem cloneInts_any (A : Option Addr) (c : Nat) (l : List Int) (w : World) (ha : Rd eInt w A l) (hl : l.length ≤ 1099511627776) (hnil : A = none → c = 0) :
    Calls Try.prog 47 #[.slice A l.length c] w (Fresh eInt 3 l w) := by
  by_cases hA : A = none
  · subst hA
    have hl0 : l = [] := by
      rcases Nat.eq_zero_or_pos l.length with h0 | h0
      · exact List.eq_nil_of_length_eq_zero h0
      · obtain ⟨_, _, h, _⟩ := ha h0
        cases h
    subst hl0
    have hc0 := hnil rfl
    subst hc0
    have heq := fun (w : World) => nil_eq w el_int.1 none 0 0
    go_enter Try.func47, Try.ntmps47
    go_wp2
    go_ret
    exact ⟨none, 0, w.heap.size, rfl, Nat.le_refl _, Row.nil _ _ _, Below.refl _ _⟩
  · obtain ⟨ad, rfl⟩ := Option.ne_none_iff_exists'.1 hA
    have hrow := Row.made (E := eInt) w 3 #[] [] 0 rfl (Nat.le_refl _) (by decide) rfl
    have hra := Rd.alloc ha (.cells #[] 3)
    have HR := Lib.hid hrow
    have HA := Lib.hid hra
    clear hrow hra
    have heq := fun (w : World) => nil_eq w el_int.1 (some ad) l.length c
    go_enter Try.func47, Try.ntmps47
    go_wp2_with (at_builtin; refine wpList_append_row rfl _ _ rfl el_int rfl HR.out _ _ l rfl HA.out (by simp only [maxLen, List.length_nil]; omega) (by simp only [List.length_nil]; omega) ?_; intro A' c' g' w' l' hl' hle1 hle2 hrow' hg' hgg')
    have e1 := hl'.out
    simp only [List.nil_append] at e1
    subst e1
    go_ret
    refine ⟨A', c', g', rfl, ?_, hrow', ?_⟩
    · simp at hgg'; omega
    · exact Below.grown1 ((by repeat (first | with_reducible exact Below.refl _ _ | with_reducible assumption | with_reducible refine below_drewN ?_ _ | with_reducible refine Below.drew ?_ | with_reducible refine Below.alloc ?_ ?_ _ | with_reducible refine Below.setCell ?_ ?_ _ | (with_reducible refine Below.next ?_ (by assumption)) | omega | (focus (simp; omega)) | (focus (simp; done))))) hg' (by simp) (by simp)
/-- The first place of x in l, or -1. -/
def idx (l : List Int) (x : Int) : Int := match l.findIdx? (· == x) with | some k => (k : Int) | none => -1
theorem idx_no {l : List Int} {x : Int} (h : ∀ k (hk : k < l.length), l[k] ≠ x) : idx l x = -1 := by
  have : l.findIdx? (· == x) = none := by
    rw [List.findIdx?_eq_none_iff]
    intro y hy
    obtain ⟨k, hk, rfl⟩ := List.getElem_of_mem hy
    simpa using h k hk
  simp [idx, this]
theorem idx_at {l : List Int} {x : Int} {k : Nat} (hk : k < l.length) (he : l[k] = x) (h : ∀ j (hj : j < k), l[j] ≠ x) : idx l x = (k : Int) := by
  have : l.findIdx? (· == x) = some k := by
    rw [List.findIdx?_eq_some_iff_getElem]
    exact ⟨hk, by simpa using he, fun j hj => by simpa using h j hj⟩
  simp [idx, this]
theorem idx_neg {l : List Int} {x : Int} : idx l x < 0 ↔ x ∉ l := by
  unfold idx
  split
  · rename_i k hk
    rw [List.findIdx?_eq_some_iff_getElem] at hk
    obtain ⟨hk, he, _⟩ := hk
    have : x ∈ l := by rw [← eq_of_beq he]; exact List.getElem_mem hk
    constructor
    · intro h; omega
    · intro h; exact absurd this h
  · rename_i hn
    rw [List.findIdx?_eq_none_iff] at hn
    constructor
    · intro _ hm
      have := hn x hm
      simp at this
    · intro _; omega
theorem idx_le (l : List Int) (x : Int) : -1 ≤ idx l x ∧ idx l x < l.length := by
  unfold idx
  split
  · rename_i k hk
    rw [List.findIdx?_eq_some_iff_getElem] at hk
    obtain ⟨hk, _⟩ := hk
    omega
  · omega
theorem idx_get {l : List Int} {x : Int} (h : 0 ≤ idx l x) : ∃ k : Nat, idx l x = k ∧ ∃ hk : k < l.length, l[k] = x ∧ ∀ j (hj : j < k), l[j] ≠ x := by
  revert h
  unfold idx
  split
  · rename_i k hk
    rw [List.findIdx?_eq_some_iff_getElem] at hk
    obtain ⟨hk, he, hj⟩ := hk
    intro _
    exact ⟨k, rfl, hk, eq_of_beq he, fun j hjk => by simpa using hj j hjk⟩
  · intro h; omega
set_option maxHeartbeats 1000000 in
theorem index_any (A : Option Addr) (n c : Nat) (l : List Int) (x : Int) (w : World) (hn : l.length = n) (ha : Rd eInt w A l) (hl : n ≤ 1099511627776) :
    Calls Try.prog 49 #[.slice A n c, .int .i64 x] w fun e w' => e = .returned (.int .i64 (idx l x)) ∧ w = w' := by
  subst hn
  go_enter Try.func49, Try.ntmps49
  go_wp2
  go_loop [8] (fun i => ∃ k : Nat, k ≤ l.length ∧ i = .int .i64 k ∧ ∀ j (h : j < l.length), j < k → l[j] ≠ x) (fun i => l.length - (intOf i).toNat)
  case atStart => exact ⟨0, Nat.zero_le _, rfl, fun j _ h => absurd h (by omega)⟩
  case round =>
    obtain ⟨k, hk, rfl, ht⟩ := hrel
    have HT := Lib.hid ht
    clear ht
    by_cases hlt : k < l.length
    · obtain ⟨b, off, rfl, hbl, hc⟩ := ha.int hlt
      cases hee : (x == l[k]'hlt)
      · have HE := Lib.hid hee
        go_wp2
        go_round
        case rel =>
          refine ⟨k + 1, by omega, by go_num, fun j h hj => ?_⟩
          by_cases hjk : j = k
          · subst hjk
            have := HE.out
            simp at this
            exact fun h => this h.symm
          · exact HT.out j h (by omega)
        case measure => simp [intOf]; omega
      · have HE := Lib.hid hee
        go_wp2
        go_ret
        exact ⟨ret_int (idx_at hlt (by have := HE.out; simp at this; exact this.symm) fun j hj => HT.out j (by omega) hj).symm, rfl⟩
    · go_wp2
      go_ret
      exact ⟨ret_int (idx_no fun j h => HT.out j h (by omega)).symm, rfl⟩
set_option maxHeartbeats 1000000 in
theorem contains_any (A : Option Addr) (n c : Nat) (l : List Int) (x : Int) (w : World) (hn : l.length = n) (ha : Rd eInt w A l) (hl : n ≤ 1099511627776) :
    Calls Try.prog 36 #[.slice A n c, .int .i64 x] w fun e w' => e = .returned (.bool (decide (x ∈ l))) ∧ w = w' := by
  go_enter Try.func36, Try.ntmps36
  go_wp2_with (go_at_call 49; refine (index_any A n c l x _ hn ha hl).mono ?_; rintro e w' ⟨rfl, rfl⟩)
  go_ret
  refine ⟨ret_bool ?_, rfl⟩
  have := @idx_neg l x
  by_cases h : x ∈ l
  · simp [h]; exact Int.not_lt.1 (fun hh => (this.1 hh) h)
  · simp [h]; exact this.2 h
end Go.Proofs.Ytkejdgegkbfofaa
