/-
  Contracts of the laws' helpers on slices of bool. Conditions: lengths at most 2^40.
-/
import Derived.Test.YtmgbenfmhgkogaaBase
import Derived.Test.YtmgbenfmhgkogaaNum
import Derived.Test.YtmgbenfmhgkogaaInts
import Derived.Test.YtmgbenfmhgkogaaApp
import Derived.Test.YtmgbenfmhgkogaaIntsW
import Derived.Test.YtmgbenfmhgkogaaOwn
namespace Go.Proofs.Ytmgbenfmhgkogaa
open Go.RowKit
abbrev markOne (k : Int) : Bool := (k % 3 == 0)
def marksB (n : Nat) (k : Int) : List Bool := (List.range n).map fun i => markOne (k + (i : Nat))
theorem marksB_length (n : Nat) (k : Int) : (marksB n k).length = n := by simp [marksB]
theorem marksB_get (n : Nat) (k : Int) (i : Nat) (h : i < (marksB n k).length) : (marksB n k)[i]'h = markOne (k + (i : Nat)) := by simp [marksB]
set_option maxHeartbeats 1000000 in
theorem markBoolS_any (A : Option Addr) (c g : Nat) (l : List Bool) (k : Int) (w : World) (hr : Row eBool w g 4 A c l) (hl : l.length ≤ 1099511627776) (hk0 : 0 ≤ k) (hk : k ≤ 1099511627776) :
    Calls Try.prog 25 #[.slice A l.length c, .int .i64 k] w fun e w' => e = .returned (.int .i64 (k + l.length)) ∧ Row eBool w' g 4 A c (marksB l.length k) ∧ w.grownBy w' (some g) := by
  have HR := Lib.hid hr
  clear hr
  go_enter Try.func25, Try.ntmps25
  go_wp2
  go_loopw [1, 5] (fun kk i wr => ∃ j : Nat, j ≤ l.length ∧ i = .int .i64 j ∧ kk = .int .i64 (k + j) ∧ w.grownBy wr (some g) ∧ ∃ lj : List Bool, (lj.length ≤ l.length ∧ l.length ≤ lj.length) ∧ (∀ t (h1 : t < lj.length), t < j → lj[t] = markOne (k + (t : Nat))) ∧ Row eBool wr g 4 A c lj) (fun _ i _ => l.length - (intOf i).toNat)
  case atStart => exact ⟨0, Nat.zero_le _, rfl, by simp, grownBy_refl _ _, l, ⟨Nat.le_refl _, Nat.le_refl _⟩, fun t _ h => absurd h (by omega), HR.out⟩
  case round =>
    obtain ⟨j, hj, rfl, rfl, hg, lj, ⟨hlj1, hlj2⟩, hlt, hrow⟩ := hrel
    by_cases hjl : j < l.length
    · obtain ⟨rfl, hgl, hfz, hc2⟩ := hrow.bool (by omega)
      have hc3 := hc2 j (by omega)
      have hset := hrow.setBool (k := j) (by omega) ((k + (j : Int)) % 3 == 0)
      have HS := Lib.hid hset
      have HL := Lib.hid hlt
      clear hset hlt hc2
      go_wp2
      go_roundw
      case rel =>
        refine ⟨j + 1, by omega, by go_num, by go_num, grownBy_trans hg (grownBy_setCell _ _ _ _), _, ⟨by simpa using hlj1, by simpa using hlj2⟩, ?_, HS.out⟩
        intro t h1 ht
        by_cases htk : t = j
        · subst htk; simp
        · rw [List.getElem_set_ne (by omega)]
          exact HL.out t (by simpa using h1) (by omega)
      case measure => simp [intOf]; omega
    · have hll : lj = marksB l.length k := eq_of_upto (by rw [marksB_length]; omega) fun t h1 h2 => by rw [marksB_get]; exact hlt t h1 (by omega)
      subst hll
      have hje : j = l.length := by omega
      subst hje
      go_wp2
      go_ret
      exact ⟨rfl, hrow, hg⟩
set_option maxHeartbeats 1000000 in
theorem heldBoolS_any (A : Option Addr) (c n : Nat) (k : Int) (w : World) (hr : Rd eBool w A (marksB n k)) (hl : n ≤ 1099511627776) (hk0 : 0 ≤ k) (hk : k ≤ 1099511627776) :
    Calls Try.prog 26 #[.slice A n c, .int .i64 k] w fun e w' => e = .returned (.int .i64 (k + n)) ∧ ∃ q, w' = w.drewN q := by
  go_enter Try.func26, Try.ntmps26
  go_wp2
  go_loopw [1, 5] (fun kk i wr => ∃ j : Nat, j ≤ n ∧ i = .int .i64 j ∧ kk = .int .i64 (k + j) ∧ ∃ q, wr = w.drewN q) (fun _ i _ => n - (intOf i).toNat)
  case atStart => exact ⟨0, Nat.zero_le _, rfl, by simp, 0, rfl⟩
  case round =>
    obtain ⟨j, hj, rfl, rfl, q, rfl⟩ := hrel
    by_cases hjl : j < n
    · obtain ⟨b, off, rfl, hbl, hc0⟩ := hr.bools (by rw [marksB_length]; omega)
      have hc := hc0 j (by rw [marksB_length]; exact hjl)
      clear hc0
      rw [marksB_get] at hc
      go_wp2
      go_roundw
      case rel => exact ⟨j + 1, by omega, by go_num, by go_num, _, rfl⟩
      case measure => simp [intOf]; omega
    · have hje : j = n := by omega
      subst hje
      go_wp2
      go_ret
      exact ⟨rfl, q, by simp⟩
set_option maxHeartbeats 1000000 in
theorem eqBoolS_any (A A' : Option Addr) (c c' : Nat) (l m : List Bool) (w : World) (ha : Rd eBool w A l) (hb : Rd eBool w A' m) (hl : l.length ≤ 1099511627776) (hm : m.length ≤ 1099511627776) :
    Calls Try.prog 22 #[.slice A l.length c, .slice A' m.length c'] w fun e w' => e = .returned (.bool (decide (l = m))) ∧ ∃ q, w' = w.drewN q := by
  by_cases hn : l.length = m.length
  · have HN := Lib.hid hn
    go_enter Try.func22, Try.ntmps22
    go_wp2
    go_loopw [5] (fun i wr => ∃ j : Nat, j ≤ l.length ∧ i = .int .i64 j ∧ (∀ t (h1 : t < l.length) (h2 : t < m.length), t < j → l[t] = m[t]) ∧ ∃ q, wr = w.drewN q) (fun i _ => l.length - (intOf i).toNat)
    case atStart => exact ⟨0, Nat.zero_le _, rfl, fun t _ _ h => absurd h (by omega), 0, rfl⟩
    case round =>
      obtain ⟨j, hj, rfl, ht, q, rfl⟩ := hrel
      have HT := Lib.hid ht
      clear ht
      by_cases hjl : j < l.length
      · have hjm : j < m.length := by omega
        obtain ⟨b, off, rfl, hbl, hc0⟩ := ha.bools (by omega)
        obtain ⟨b2, off2, rfl, hbl2, hc2⟩ := hb.bools (by omega)
        have hc := hc0 j hjl
        have hd := hc2 j hjm
        clear hc0 hc2 hn
        by_cases hx : l[j] = m[j]
        · have HX := Lib.hid hx
          go_wp2
          go_quiet (fail)
          go_wp2
          go_roundw
          case rel =>
            refine ⟨j + 1, by omega, by go_num, ?_, _, rfl⟩
            intro t h1 h2 h3
            by_cases h4 : t = j
            · subst h4; exact HX.out
            · exact HT.out t h1 h2 (by omega)
          case measure => simp [intOf]; omega
        · have HX := Lib.hid hx
          go_wp2
          go_quiet (fail)
          go_wp2
          all_goals first
            | (exfalso; have h1 := HX.out; revert h1; simp_all; done)
            | (go_ret
               refine ⟨ret_bool ?_, q + nq, by simp⟩
               have : l ≠ m := fun h => HX.out (by subst h; rfl)
               simp [this])
      · go_wp2
        go_ret
        refine ⟨ret_bool ?_, q, by simp⟩
        have : l = m := List.ext_getElem HN.out fun t h1 h2 => HT.out t h1 h2 (by omega)
        simp [this]
  · have : l ≠ m := fun h => hn (by rw [h])
    rw [show decide (l = m) = false by simp [this]]
    go_enter Try.func22, Try.ntmps22
    go_wp2
    go_ret
    exact ⟨rfl, 0, rfl⟩
set_option maxHeartbeats 1000000 in
theorem markBoolS_nil (k : Int) (w : World) : Calls Try.prog 25 #[.slice none 0 0, .int .i64 k] w fun e w' => e = .returned (.int .i64 k) ∧ w = w' := by
  go_enter Try.func25, Try.ntmps25
  go_wp2
  refine wp_loop_rounds 1 ?_
  rw [rounds_succ]
  go_wp2
  go_ret
  exact ⟨rfl, rfl⟩
abbrev elemBoolS : Type := Bool
abbrev encBoolS : Enc Bool := eBool
abbrev tyBoolS : TypeId := 4
abbrev marksBoolS (n : Nat) (k : Int) : List Bool := marksB n k
theorem marksBoolS_length (n : Nat) (k : Int) : (marksBoolS n k).length = n := marksB_length n k
theorem eqBoolS_w (v u : Value) (l m : List Bool) (w : World) (h : SRd encBoolS w v l) (k : SRd encBoolS w u m) (hl : l.length ≤ 1099511627776) (hm : m.length ≤ 1099511627776) : Calls Try.prog 22 #[v, u] w fun e w' => e = .returned (.bool (decide (l = m))) ∧ Below w.heap.size w w' := by
  obtain ⟨A, c, rfl, hr, _⟩ := h
  obtain ⟨A', c', rfl, hr', _⟩ := k
  exact (eqBoolS_any A A' c c' l m w hr hr' (by omega) (by omega)).mono fun _ _ ⟨h1, q, h2⟩ => ⟨h1, by rw [h2]; exact below_drewN (Below.refl _ _) q⟩
theorem markBoolS_w (v : Value) (l : List Bool) (k : Int) (B C : Nat) (w : World) (h : SOwn encBoolS tyBoolS B w C v l) (hl : l.length ≤ 1099511627776) (hk0 : 0 ≤ k) (hk : k ≤ 1099511627776) :
    Calls Try.prog 25 #[v, .int .i64 k] w (MarkedS encBoolS tyBoolS B C v (marksBoolS l.length k) (k + 1 * l.length) w) := by
  rw [Int.one_mul]
  obtain ⟨A, c, g, rfl, hr, hw⟩ := h
  by_cases hA : A = none
  · subst hA
    rcases hr with ⟨_, rfl, rfl⟩ | ⟨cur, h, _⟩
    · refine (markBoolS_nil k w).mono ?_
      rintro en w' ⟨rfl, rfl⟩
      exact ⟨by simp, SOwn.nil0 _ _ _, GIn.refl _ _ _, fun _ _ _ _ _ _ h => h⟩
    · cases h
  · refine (markBoolS_any A c g l k w hr hl hk0 hk).mono ?_
    rintro en w' ⟨rfl, hrow, hg⟩
    exact markedS_of (marksB_length _ _) hw hrow hg (fun h => absurd h hA)
theorem heldBoolS_w (v : Value) (n : Nat) (k : Int) (w : World) (h : SRd encBoolS w v (marksBoolS n k)) (hl : n ≤ 1099511627776) (hk0 : 0 ≤ k) (hk : k ≤ 1099511627776) :
    Calls Try.prog 26 #[v, .int .i64 k] w fun e w' => e = .returned (.int .i64 (k + 1 * n)) ∧ Below w.heap.size w w' := by
  rw [Int.one_mul]
  obtain ⟨A, c, rfl, hr, _⟩ := h
  rw [marksB_length]
  exact (heldBoolS_any A c n k w hr hl hk0 hk).mono fun _ _ ⟨h1, q, h2⟩ => ⟨h1, by rw [h2]; exact below_drewN (Below.refl _ _) q⟩
end Go.Proofs.Ytmgbenfmhgkogaa
