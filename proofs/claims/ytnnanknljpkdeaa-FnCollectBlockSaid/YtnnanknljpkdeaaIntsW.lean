/-
  Contracts of the functions on slices of int that make or write memory. Conditions: lengths at most 2^40.
-/
import Derived.Test.YtnnanknljpkdeaaBase
import Derived.Test.YtnnanknljpkdeaaNum
import Derived.Test.YtnnanknljpkdeaaInts
import Derived.Test.YtnnanknljpkdeaaApp
namespace Go.Proofs.Ytnnanknljpkdeaa
open Go.RowKit
/-- A fresh slice comes back. -/
def Fresh {α : Type} (E : Enc α) (e : TypeId) (l : List α) (w : World) (en : Ending) (w' : World) : Prop :=
  ∃ A c g, en = .returned (.slice A l.length c) ∧ w.heap.size ≤ g ∧ Row E w' g e A c l ∧ Below w.heap.size w w'
/-- A fresh slice that is not nil comes back. -/
def FreshS {α : Type} (E : Enc α) (e : TypeId) (l : List α) (w : World) (en : Ending) (w' : World) : Prop :=
  ∃ A c g, en = .returned (.slice A l.length c) ∧ w.heap.size ≤ g ∧ g < w'.heap.size ∧ Row E w' g e A c l ∧ Below w.heap.size w w'
theorem FreshS.weak {α : Type} {E : Enc α} {e : TypeId} {l : List α} {w : World} (en : Ending) (w' : World) (h : FreshS E e l w en w') : Fresh E e l w en w' := by
  obtain ⟨A, c, g, h1, h2, _, h3, h4⟩ := h
  exact ⟨A, c, g, h1, h2, h3, h4⟩
theorem Row.some_lt {α : Type} {E : Enc α} {w : World} {g : Nat} {e : TypeId} {ad : Addr} {c : Nat} {l : List α} (h : Row E w g e (some ad) c l) : g < w.heap.size := by
  rcases h.made? with h | h
  · cases h
  · exact h
def marks (n : Nat) (k : Int) : List Int := (List.range n).map fun i => k + (i : Nat)
theorem marks_length (n : Nat) (k : Int) : (marks n k).length = n := by simp [marks]
theorem marks_get (n : Nat) (k : Int) (i : Nat) (h : i < (marks n k).length) : (marks n k)[i]'h = k + (i : Nat) := by simp [marks]
theorem eq_of_upto {α : Type} {l m : List α} (h1 : l.length = m.length) (h : ∀ t (h1 : t < l.length) (h2 : t < m.length), l[t] = m[t]) : l = m := List.ext_getElem h1 h
set_option maxHeartbeats 1000000 in
theorem szIntS_big (A : Option Addr) (n c : Nat) (k : Int) (w : World) (hn : n ≤ 9223372036854775807) (hk0 : 0 ≤ k) (hk : k ≤ 1048576) (h : k < n) :
    Calls Try.prog 47 #[.slice A n c, .int .i64 k] w fun e w' => e = .returned (.int .i64 (-1)) ∧ w = w' := by
  go_enter Try.func47, Try.ntmps47
  go_wp2
  go_ret
  exact ⟨rfl, rfl⟩
set_option maxHeartbeats 1000000 in
theorem szIntS_ok (A : Option Addr) (n c : Nat) (k : Int) (w : World) (hk0 : 0 ≤ k) (hk : k ≤ 1048576) (h : (n : Int) ≤ k) :
    Calls Try.prog 47 #[.slice A n c, .int .i64 k] w fun e w' => e = .returned (.int .i64 (k - n)) ∧ w = w' := by
  go_enter Try.func47, Try.ntmps47
  go_wp2
  go_ret
  exact ⟨rfl, rfl⟩
set_option maxHeartbeats 1000000 in
theorem toIntS_s (A : Option Addr) (c : Nat) (l : List Int) (w : World) (ha : Rd eInt w A l) (hl : l.length ≤ 1099511627776) :
    Calls Try.prog 51 #[.slice A l.length c] w (FreshS eInt 3 l w) := by
  have hmk := run_make_el el_int l.length (by omega) (by omega)
  have hrow := made_row (E := eInt) (z := .int .i64 0) (e := 3) w 0 rfl l.length (by omega)
  simp only [show (Value.int .i64 0).cells = #[.int .i64 0] from rfl, show eInt.size = 1 from rfl, Nat.mul_one] at hmk hrow
  have HR := Lib.hid hrow
  clear hrow
  go_enter Try.func51, Try.ntmps51
  go_wp2
  go_loopw [4] (fun i wr => ∃ k : Nat, k ≤ l.length ∧ i = .int .i64 k ∧ Below w.heap.size w wr ∧ ∃ lk : List Int, (lk.length ≤ l.length ∧ l.length ≤ lk.length) ∧ (∀ t (h1 : t < lk.length) (h2 : t < l.length), t < k → lk[t] = l[t]) ∧ Row eInt wr w.heap.size 3 (some ⟨w.heap.size, 0, none⟩) l.length lk) (fun i _ => l.length - (intOf i).toNat)
  case atStart => exact ⟨0, Nat.zero_le _, rfl, (by repeat (first | with_reducible exact Below.refl _ _ | with_reducible assumption | with_reducible refine below_drewN ?_ _ | with_reducible refine Below.drew ?_ | with_reducible refine Below.alloc ?_ ?_ _ | with_reducible refine Below.setCell ?_ ?_ _ | (with_reducible refine Below.next ?_ (by assumption)) | omega | (focus (simp; omega)) | (focus (simp; done)))), List.replicate l.length 0, ⟨by simp, by simp⟩, fun t _ _ h => absurd h (by omega), HR.out⟩
  case round =>
    obtain ⟨k, hk, rfl, hb, lk, ⟨hlk1, hlk2⟩, hlt, hrow⟩ := hrel
    by_cases hkl : k < l.length
    · obtain ⟨b, off, rfl, hbl, hc⟩ := (ha.below hb).int hkl
      obtain ⟨_, hg, hfz, hc2⟩ := hrow.int (by omega)
      have hbg : b ≠ w.heap.size := by
        have := ha.lt (by omega) rfl
        omega
      have hc3 := hc2 k (by omega)
      have hset := hrow.setInt (k := k) (by omega) (l[k]'hkl)
      have HS := Lib.hid hset
      have HL := Lib.hid hlt
      clear hset hlt hc2
      go_wp2
      go_roundw
      case rel =>
        refine ⟨k + 1, by omega, by go_num, Below.setCell hb (Nat.le_refl _) _, _, ⟨by simpa using hlk1, by simpa using hlk2⟩, ?_, HS.out⟩
        intro t h1 h2 ht
        by_cases htk : t = k
        · subst htk; simp
        · rw [List.getElem_set_ne (by omega)]
          exact HL.out t (by simpa using h1) h2 (by omega)
      case measure => simp [intOf]; omega
    · have hll : lk = l := eq_of_upto (Nat.le_antisymm hlk1 hlk2) fun t h1 h2 => hlt t h1 h2 (by omega)
      subst hll
      go_wp2
      go_ret
      exact ⟨_, _, _, rfl, Nat.le_refl _, hrow.some_lt, hrow, hb⟩
theorem toIntS_any (A : Option Addr) (c : Nat) (l : List Int) (w : World) (ha : Rd eInt w A l) (hl : l.length ≤ 1099511627776) :
    Calls Try.prog 51 #[.slice A l.length c] w (Fresh eInt 3 l w) := (toIntS_s A c l w ha hl).mono FreshS.weak
set_option maxHeartbeats 1000000 in
theorem markIntS_any (A : Option Addr) (c g : Nat) (l : List Int) (k : Int) (w : World) (hr : Row eInt w g 3 A c l) (hl : l.length ≤ 1099511627776) (hk0 : 0 ≤ k) (hk : k ≤ 1099511627776) :
    Calls Try.prog 32 #[.slice A l.length c, .int .i64 k] w fun e w' => e = .returned (.int .i64 (k + l.length)) ∧ Row eInt w' g 3 A c (marks l.length k) ∧ w.grownBy w' (some g) := by
  have HR := Lib.hid hr
  clear hr
  go_enter Try.func32, Try.ntmps32
  go_wp2
  go_loopw [1, 5] (fun kk i wr => ∃ j : Nat, j ≤ l.length ∧ i = .int .i64 j ∧ kk = .int .i64 (k + j) ∧ w.grownBy wr (some g) ∧ ∃ lj : List Int, (lj.length ≤ l.length ∧ l.length ≤ lj.length) ∧ (∀ t (h1 : t < lj.length), t < j → lj[t] = k + (t : Nat)) ∧ Row eInt wr g 3 A c lj) (fun _ i _ => l.length - (intOf i).toNat)
  case atStart => exact ⟨0, Nat.zero_le _, rfl, by simp, grownBy_refl _ _, l, ⟨Nat.le_refl _, Nat.le_refl _⟩, fun t _ h => absurd h (by omega), HR.out⟩
  case round =>
    obtain ⟨j, hj, rfl, rfl, hg, lj, ⟨hlj1, hlj2⟩, hlt, hrow⟩ := hrel
    by_cases hjl : j < l.length
    · obtain ⟨rfl, hgl, hfz, hc2⟩ := hrow.int (by omega)
      have hc3 := hc2 j (by omega)
      have hset := hrow.setInt (k := j) (by omega) (k + j)
      have HS := Lib.hid hset
      have HL := Lib.hid hlt
      clear hset hlt hc2
      go_wp2
      go_roundw
      case rel =>
        refine ⟨j + 1, by omega, by go_num, by go_num, grownBy_trans hg (grownBy_setCell _ _ _ _), _, ⟨by simpa using hlj1, by simpa using hlj2⟩, ?_, HS.out⟩
        intro t h1 ht
        by_cases htk : t = j
        · subst htk; simp
        · rw [List.getElem_set_ne (by omega)]
          exact HL.out t (by simpa using h1) (by omega)
      case measure => simp [intOf]; omega
    · have hll : lj = marks l.length k := eq_of_upto (by rw [marks_length]; omega) fun t h1 h2 => by rw [marks_get]; exact hlt t h1 (by omega)
      subst hll
      have hje : j = l.length := by omega
      subst hje
      go_wp2
      go_ret
      exact ⟨rfl, hrow, hg⟩
set_option maxHeartbeats 1000000 in
theorem heldIntS_any (A : Option Addr) (c n : Nat) (k : Int) (w : World) (hr : Rd eInt w A (marks n k)) (hl : n ≤ 1099511627776) (hk0 : 0 ≤ k) (hk : k ≤ 1099511627776) :
    Calls Try.prog 33 #[.slice A n c, .int .i64 k] w fun e w' => e = .returned (.int .i64 (k + n)) ∧ w = w' := by
  go_enter Try.func33, Try.ntmps33
  go_wp2
  go_loop [1, 5] (fun kk i => ∃ j : Nat, j ≤ n ∧ i = .int .i64 j ∧ kk = .int .i64 (k + j)) (fun _ i => n - (intOf i).toNat)
  case atStart => exact ⟨0, Nat.zero_le _, rfl, by simp⟩
  case round =>
    obtain ⟨j, hj, rfl, rfl⟩ := hrel
    by_cases hjl : j < n
    · obtain ⟨b, off, rfl, hbl, hc⟩ := hr.int (k := j) (by rw [marks_length]; exact hjl)
      rw [marks_get] at hc
      go_wp2
      go_round
      case rel => exact ⟨j + 1, by omega, by go_num, by go_num⟩
      case measure => simp [intOf]; omega
    · have hje : j = n := by omega
      subst hje
      go_wp2
      go_ret
      exact ⟨rfl, rfl⟩
end Go.Proofs.Ytnnanknljpkdeaa
