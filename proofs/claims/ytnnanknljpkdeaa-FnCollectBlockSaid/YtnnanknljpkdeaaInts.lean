/-
  Contracts of the functions on slices of int that only read. Conditions: lengths at most 2^62.
-/
import Derived.Test.YtnnanknljpkdeaaBase
import Derived.Test.YtnnanknljpkdeaaNum
namespace Go.Proofs.Ytnnanknljpkdeaa
open Go.RowKit
def allIn (l : List Int) (lo hi : Int) : Bool := l.all fun n => inB n lo hi
theorem allIn_take {l : List Int} {lo hi : Int} {k : Nat} (h : allIn (l.take k) lo hi = true) (hk : k < l.length) (hn : inB (l[k]'hk) lo hi = true) : allIn (l.take (k + 1)) lo hi = true := by
  rw [List.take_succ_eq_append_getElem hk]
  simp only [allIn, List.all_append, List.all_cons, List.all_nil, Bool.and_true, Bool.and_eq_true] at h ⊢
  exact ⟨h, hn⟩
theorem allIn_no {l : List Int} {lo hi : Int} {k : Nat} (hk : k < l.length) (hn : inB (l[k]'hk) lo hi = false) : allIn l lo hi = false := by
  rw [allIn, List.all_eq_false]
  exact ⟨_, List.getElem_mem hk, by simp [hn]⟩
theorem allIn_mem {l : List Int} {lo hi : Int} (h : allIn l lo hi = true) {x : Int} (hx : x ∈ l) : lo ≤ x ∧ x ≤ hi := by
  rw [allIn, List.all_eq_true] at h
  exact inB_true.1 (h x hx)
theorem allIn_get {l : List Int} {lo hi : Int} (h : allIn l lo hi = true) {k : Nat} (hk : k < l.length) : lo ≤ l[k] ∧ l[k] ≤ hi := allIn_mem h (List.getElem_mem hk)
def diskB (l : List Int) : Bool := decide (l.length ≤ 64) && allIn l 0 255
theorem diskB_true {l : List Int} : diskB l = true ↔ l.length ≤ 64 ∧ allIn l 0 255 = true := by simp [diskB]
def diskSum (l : List Int) : Int := l.foldl (fun s v => (33 * s + v) % 65521) 1
theorem diskSum_take (l : List Int) (k : Nat) (hk : k < l.length) : diskSum (l.take (k + 1)) = (33 * diskSum (l.take k) + l[k]) % 65521 := by
  unfold diskSum; rw [List.take_succ_eq_append_getElem hk, List.foldl_append]; rfl
theorem diskSum_bd (l : List Int) (k : Nat) : 0 ≤ diskSum (l.take k) ∧ diskSum (l.take k) < 65521 := by
  by_cases h : k ≤ l.length
  · cases k with
    | zero => simp [diskSum]
    | succ k => rw [diskSum_take l k (by omega)]; omega
  · have : l.take k = l.take l.length := by rw [List.take_of_length_le (by omega), List.take_length]
    rw [this]
    cases hl : l.length with
    | zero => simp [diskSum]
    | succ n => rw [diskSum_take l n (by omega)]; omega
set_option maxHeartbeats 400000 in
theorem allWithin_any (A : Option Addr) (c : Nat) (l : List Int) (lo hi : Int) (w : World) (ha : Rd eInt w A l) (hl : l.length ≤ 4611686018427387904) :
    Calls Try.prog 53 #[.slice A l.length c, .int .i64 lo, .int .i64 hi] w fun e w' => e = .returned (.bool (allIn l lo hi)) ∧ w = w' := by
  go_enter Try.func53, Try.ntmps53
  go_wp2
  go_loop [11] (fun i => ∃ k : Nat, k ≤ l.length ∧ i = .int .i64 k ∧ allIn (l.take k) lo hi = true) (fun i => l.length - (intOf i).toNat)
  case atStart => exact ⟨0, Nat.zero_le _, rfl, rfl⟩
  case round =>
    obtain ⟨k, hk, rfl, ht⟩ := hrel
    have HT := Lib.hid ht
    clear ht
    by_cases hlt : k < l.length
    · obtain ⟨b, off, rfl, hbl, hc⟩ := ha.int hlt
      cases hin : inB (l[k]'hlt) lo hi
      · have HI := Lib.hid hin
        go_wp2_with (go_at_call 52; refine (within_any _ _ _ _).mono ?_; rintro e w' ⟨rfl, rfl⟩)
        go_ret
        exact ⟨ret_bool (allIn_no hlt HI.out).symm, rfl⟩
      · have HI := Lib.hid hin
        go_wp2_with (go_at_call 52; refine (within_any _ _ _ _).mono ?_; rintro e w' ⟨rfl, rfl⟩)
        go_round
        case rel => exact ⟨k + 1, by omega, by go_num, allIn_take HT.out hlt HI.out⟩
        case measure => simp [intOf]; omega
    · go_wp2
      go_ret
      refine ⟨ret_bool ?_, rfl⟩
      have := HT.out
      rw [List.take_of_length_le (by omega)] at this
      exact this.symm
set_option maxHeartbeats 400000 in
theorem diskValid_any (A : Option Addr) (c : Nat) (l : List Int) (w : World) (ha : Rd eInt w A l) (hl : l.length ≤ 4611686018427387904) :
    Calls Try.prog 70 #[.slice A l.length c] w fun e w' => e = .returned (.bool (diskB l)) ∧ w = w' := by
  go_enter Try.func70, Try.ntmps70
  go_wp2_with (go_at_call 53; refine (allWithin_any _ _ _ _ _ _ ha hl).mono ?_; rintro e w' ⟨rfl, rfl⟩)
  all_goals go_ret
  all_goals (refine ⟨?_, rfl⟩; simp [diskB]; try omega)
set_option maxHeartbeats 400000 in
theorem diskSum_any (A : Option Addr) (c : Nat) (l : List Int) (w : World) (ha : Rd eInt w A l) (hl : l.length ≤ 4611686018427387904) :
    Calls Try.prog 63 #[.slice A l.length c] w fun e w' => e = .returned (.int .i64 (if diskB l then diskSum l else -1)) ∧ w = w' := by
  cases hd : diskB l
  · go_enter Try.func63, Try.ntmps63
    go_wp2_with (go_at_call 70; refine (diskValid_any _ _ _ _ ha hl).mono ?_; rintro e w' ⟨rfl, rfl⟩)
    go_ret
    exact ⟨rfl, rfl⟩
  · have hb := (diskB_true.1 hd).2
    have HB := Lib.hid hb
    clear hb
    go_enter Try.func63, Try.ntmps63
    go_wp2_with (go_at_call 70; refine (diskValid_any _ _ _ _ ha hl).mono ?_; rintro e w' ⟨rfl, rfl⟩)
    go_loop [3, 11] (fun s i => ∃ k : Nat, k ≤ l.length ∧ i = .int .i64 k ∧ s = .int .i64 (diskSum (l.take k))) (fun _ i => l.length - (intOf i).toNat)
    case atStart => exact ⟨0, Nat.zero_le _, rfl, rfl⟩
    case round =>
      obtain ⟨k, hk, rfl, rfl⟩ := hrel
      obtain ⟨s0, s1⟩ := diskSum_bd l k
      by_cases hlt : k < l.length
      · obtain ⟨b, off, rfl, hbl, hc⟩ := ha.int hlt
        obtain ⟨v0, v1⟩ := allIn_get HB.out hlt
        have HS := Lib.hid (diskSum_take l k hlt)
        obtain ⟨s, hs⟩ : ∃ s, s = diskSum (l.take k) := ⟨_, rfl⟩
        rw [← hs] at s0 s1 HS
        rw [← hs]
        clear hs
        go_wp2
        go_round
        case rel => exact ⟨k + 1, by omega, by go_num, by rw [HS.out]⟩
        case measure => simp [intOf]; omega
      · go_wp2
        go_ret
        refine ⟨ret_int ?_, rfl⟩
        rw [List.take_of_length_le (by omega)]
theorem alive_any (w : World) : Calls Try.prog 28 #[] w fun e w' => e = .returned (.bool true) ∧ Below w.heap.size w w' := by
  have hr : Rd eInt (w.alloc (.cells #[.int .i64 1] 3)) (some ⟨w.heap.size, 0, none⟩) [1] :=
    (Row.made (E := eInt) w 3 #[.int .i64 1] [1] 1 rfl (by simp) (by decide) rfl).rd
  have hd : diskB [1] = true := by decide
  have hs : diskSum [1] = 34 := by decide
  have HR := Lib.hid hr
  clear hr
  go_enter Try.func28, Try.ntmps28
  go_wp2_with fail
  refine (diskSum_any _ 1 [1] _ HR.out (by simp)).mono ?_
  rintro e w' ⟨rfl, rfl⟩
  go_wp2
  go_ret
  exact ⟨rfl, (by repeat (first | with_reducible exact Below.refl _ _ | with_reducible assumption | with_reducible refine below_drewN ?_ _ | with_reducible refine Below.drew ?_ | with_reducible refine Below.alloc ?_ ?_ _ | with_reducible refine Below.setCell ?_ ?_ _ | (with_reducible refine Below.next ?_ (by assumption)) | omega | (focus (simp; omega)) | (focus (simp; done))))⟩
set_option maxHeartbeats 400000 in
theorem isStretch_any (a c n : Int) (w : World) (hn0 : 0 ≤ n) (hn : n ≤ 4611686018427387904) :
    Calls Try.prog 71 #[.int .i64 a, .int .i64 c, .int .i64 n] w fun e w' => e = .returned (.bool (inB a 0 n && inB c 0 (n - a))) ∧ w = w' := by
  cases h : inB a 0 n
  · go_enter Try.func71, Try.ntmps71
    go_wp2_with (go_at_call 52; refine (within_any _ _ _ _).mono ?_; rintro e w' ⟨rfl, rfl⟩)
    go_ret
    exact ⟨rfl, rfl⟩
  · obtain ⟨a0, a1⟩ := inB_true.1 h
    go_enter Try.func71, Try.ntmps71
    go_wp2_with (go_at_call 52; refine (within_any _ _ _ _).mono ?_; rintro e w' ⟨rfl, rfl⟩)
    go_ret
    exact ⟨rfl, rfl⟩
def eqUpTo {α : Type} (l m : List α) (k : Nat) : Prop := l.take k = m.take k
theorem eqUpTo_succ {α : Type} {l m : List α} {k : Nat} (h : eqUpTo l m k) (hk : k < l.length) (hk' : k < m.length) (he : l[k] = m[k]) : eqUpTo l m (k + 1) := by
  unfold eqUpTo at h ⊢
  rw [List.take_succ_eq_append_getElem hk, List.take_succ_eq_append_getElem hk', h, he]
theorem eqUpTo_all {α : Type} {l m : List α} {k : Nat} (h : eqUpTo l m k) (hk : l.length ≤ k) (hk' : m.length ≤ k) : l = m := by
  unfold eqUpTo at h
  rwa [List.take_of_length_le hk, List.take_of_length_le hk'] at h
theorem ne_of_get {α : Type} {l m : List α} {k : Nat} (hk : k < l.length) (hk' : k < m.length) (hne : l[k] ≠ m[k]) : l ≠ m := by
  rintro rfl; exact hne rfl
set_option maxHeartbeats 1000000 in
theorem eqIntS_any (A B : Option Addr) (c d : Nat) (l m : List Int) (w : World) (ha : Rd eInt w A l) (hb : Rd eInt w B m) (hl : l.length ≤ 4611686018427387904) (_hm : m.length ≤ 4611686018427387904) :
    Calls Try.prog 31 #[.slice A l.length c, .slice B m.length d] w fun e w' => e = .returned (.bool (decide (l = m))) ∧ ∃ q, w' = w.drewN q := by
  by_cases hlen : l.length = m.length
  · have HL := Lib.hid hlen
    clear hlen
    have hle : l.length ≤ m.length := by have := HL.out; omega
    have hle2 : m.length ≤ l.length := by have := HL.out; omega
    have hne0 : ((l.length : Int) != (m.length : Int)) = false := by simp; have := HL.out; omega
    go_enter Try.func31, Try.ntmps31
    go_wp2
    go_loopw [5] (fun i wr => ∃ k : Nat, k ≤ l.length ∧ i = .int .i64 k ∧ eqUpTo l m k ∧ ∃ q, wr = w.drewN q) (fun i _ => l.length - (intOf i).toNat)
    case atStart => exact ⟨0, Nat.zero_le _, rfl, rfl, 0, rfl⟩
    case round =>
      obtain ⟨k, hk, rfl, ht, q, rfl⟩ := hrel
      have HT := Lib.hid ht
      clear ht
      by_cases hlt : k < l.length
      · have hlt' : k < m.length := by omega
        obtain ⟨b, off, rfl, hbl, hc⟩ := ha.int hlt
        obtain ⟨b', off', rfl, hbl', hc'⟩ := hb.int hlt'
        cases hee : ((l[k]'hlt) != (m[k]'hlt'))
        · have HE := Lib.hid hee
          go_wp2
          go_quiet (fail)
          go_wp2
          go_roundw
          case rel => exact ⟨k + 1, by omega, by go_num, eqUpTo_succ HT.out hlt hlt' (by simpa using HE.out), q + _, rfl⟩
          case measure => simp [intOf]; omega
        · have HE := Lib.hid hee
          go_wp2
          go_quiet (fail)
          go_wp2
          go_ret
          refine ⟨ret_bool ?_, _, (World.drewN_drewN ..)⟩
          have := ne_of_get hlt hlt' (by simpa using HE.out)
          simp [this]
      · go_wp2
        go_ret
        refine ⟨ret_bool ?_, q, rfl⟩
        have := eqUpTo_all HT.out (by omega) (by omega)
        simp [this]
  · have hne0 : ((l.length : Int) != (m.length : Int)) = true := by simp; omega
    have HL := Lib.hid hlen
    clear hlen
    go_enter Try.func31, Try.ntmps31
    go_wp2
    go_ret
    refine ⟨ret_bool ?_, 0, rfl⟩
    have : l ≠ m := fun e => HL.out (by rw [e])
    simp [this]
set_option maxHeartbeats 1000000 in
theorem sameInts_any (A B : Option Addr) (c d : Nat) (l m : List Int) (w : World) (ha : Rd eInt w A l) (hb : Rd eInt w B m) (hl : l.length ≤ 4611686018427387904) (_hm : m.length ≤ 4611686018427387904) :
    Calls Try.prog 38 #[.slice A l.length c, .slice B m.length d] w fun e w' => e = .returned (.bool (decide (l = m))) ∧ ∃ q, w' = w.drewN q := by
  by_cases hlen : l.length = m.length
  · have HL := Lib.hid hlen
    clear hlen
    have hle : l.length ≤ m.length := by have := HL.out; omega
    have hle2 : m.length ≤ l.length := by have := HL.out; omega
    have hne0 : ((l.length : Int) != (m.length : Int)) = false := by simp; have := HL.out; omega
    go_enter Try.func38, Try.ntmps38
    go_wp2
    go_loopw [5] (fun i wr => ∃ k : Nat, k ≤ l.length ∧ i = .int .i64 k ∧ eqUpTo l m k ∧ ∃ q, wr = w.drewN q) (fun i _ => l.length - (intOf i).toNat)
    case atStart => exact ⟨0, Nat.zero_le _, rfl, rfl, 0, rfl⟩
    case round =>
      obtain ⟨k, hk, rfl, ht, q, rfl⟩ := hrel
      have HT := Lib.hid ht
      clear ht
      by_cases hlt : k < l.length
      · have hlt' : k < m.length := by omega
        obtain ⟨b, off, rfl, hbl, hc⟩ := ha.int hlt
        obtain ⟨b', off', rfl, hbl', hc'⟩ := hb.int hlt'
        cases hee : ((l[k]'hlt) != (m[k]'hlt'))
        · have HE := Lib.hid hee
          go_wp2
          go_quiet (fail)
          go_wp2
          go_roundw
          case rel => exact ⟨k + 1, by omega, by go_num, eqUpTo_succ HT.out hlt hlt' (by simpa using HE.out), q + _, rfl⟩
          case measure => simp [intOf]; omega
        · have HE := Lib.hid hee
          go_wp2
          go_quiet (fail)
          go_wp2
          go_ret
          refine ⟨ret_bool ?_, _, (World.drewN_drewN ..)⟩
          have := ne_of_get hlt hlt' (by simpa using HE.out)
          simp [this]
      · go_wp2
        go_ret
        refine ⟨ret_bool ?_, q, rfl⟩
        have := eqUpTo_all HT.out (by omega) (by omega)
        simp [this]
  · have hne0 : ((l.length : Int) != (m.length : Int)) = true := by simp; omega
    have HL := Lib.hid hlen
    clear hlen
    go_enter Try.func38, Try.ntmps38
    go_wp2
    go_ret
    refine ⟨ret_bool ?_, 0, rfl⟩
    have : l ≠ m := fun e => HL.out (by rw [e])
    simp [this]
end Go.Proofs.Ytnnanknljpkdeaa
