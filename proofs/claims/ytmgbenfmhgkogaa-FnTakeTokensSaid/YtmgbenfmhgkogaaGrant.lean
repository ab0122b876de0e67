/-
  Valid times, granted times: contracts. Conditions: lengths at most 2^40.
-/
import Derived.Test.YtmgbenfmhgkogaaBase
import Derived.Test.YtmgbenfmhgkogaaNum
import Derived.Test.YtmgbenfmhgkogaaInts
import Derived.Test.YtmgbenfmhgkogaaLib
import Derived.Test.YtmgbenfmhgkogaaBucket
namespace Go.Proofs.Ytmgbenfmhgkogaa
open Go.RowKit
def ascAt (l : List Int) (k : Nat) : Bool := k == 0 || decide (l.getD (k - 1) 0 ≤ l.getD k 0)
def ascB (l : List Int) : Bool := (List.range l.length).all (ascAt l)
def timesB (l : List Int) : Bool := decide (l.length ≤ 60) && allIn l 0 100000 && ascB l
theorem ascB_true {l : List Int} : ascB l = true ↔ ∀ k, k < l.length → ascAt l k = true := by simp [ascB, List.all_eq_true]
theorem ascB_no {l : List Int} {k : Nat} (hk : k < l.length) (h : ascAt l k = false) : ascB l = false := by
  cases hh : ascB l
  · rfl
  · have := ascB_true.1 hh k hk; rw [h] at this; cases this
theorem ascAt_get {l : List Int} {k : Nat} (hk : k < l.length) (h0 : 0 < k) : ascAt l k = decide (l[k - 1]'(by omega) ≤ l[k]) := by
  have hk' : k - 1 < l.length := by omega
  have h0' : (k == 0) = false := by simp; omega
  simp [ascAt, h0', hk, hk']
theorem isNaN_any (x : Int) (w : World) : Calls Try.prog 43 #[.int .i64 x] w fun e w' => e = .returned (.bool false) ∧ w = w' := by
  go_enter Try.func43, Try.ntmps43
  go_wp2
  go_ret
  exact ⟨rfl, rfl⟩
theorem less_any (x y : Int) (w : World) : Calls Try.prog 42 #[.int .i64 x, .int .i64 y] w fun e w' => e = .returned (.bool (decide (x < y))) ∧ w = w' := by
  go_enter Try.func42, Try.ntmps42
  go_wp2_with (go_at_call 43; refine (isNaN_any _ _).mono ?_; rintro e w' ⟨rfl, rfl⟩)
  all_goals go_ret
  all_goals (refine ⟨?_, rfl⟩; simp_all)
set_option maxHeartbeats 800000 in
theorem sorted_any (A : Option Addr) (c : Nat) (l : List Int) (w : World) (ha : Rd eInt w A l) (hl : l.length ≤ 1099511627776) :
    Calls Try.prog 41 #[.slice A l.length c] w fun e w' => e = .returned (.bool (ascB l)) ∧ ∃ q, w' = w.drewN q := by
  go_enter Try.func41, Try.ntmps41
  go_wp2
  go_loopw [3] (fun i wr => ∃ k : Nat, k ≤ l.length ∧ i = .int .i64 ((k : Int) - 1) ∧ (∀ j, k ≤ j → j < l.length → ascAt l j = true) ∧ ∃ q, wr = w.drewN q) (fun i _ => (intOf i + 1).toNat)
  case atStart => exact ⟨l.length, Nat.le_refl _, rfl, fun j h1 h2 => by omega, 0, rfl⟩
  case round =>
    obtain ⟨k, hk, rfl, ht, q, rfl⟩ := hrel
    have HT := Lib.hid ht
    clear ht
    by_cases hlt : 1 < k
    · obtain ⟨m, rfl⟩ : ∃ m, k = m + 2 := ⟨k - 2, by omega⟩
      obtain ⟨j, hj⟩ : ∃ j, j = m + 1 := ⟨_, rfl⟩
      have hj0 : 0 < (j : Int) := by omega
      have hj1 : (j : Int) - 1 = (m : Int) := by omega
      have hjl : j < l.length := by omega
      have hml : m < l.length := by omega
      obtain ⟨b, off, rfl, hbl, hc⟩ := ha.int hjl
      obtain ⟨b2, off2, he2, hbl2, hc2⟩ := ha.int hml
      cases he2
      rw [show (((m + 2 : Nat) : Int) - 1) = (j : Int) by omega]
      have HJ := Lib.hid hj
      have HA : Hid (ascAt l j = decide (l[m] ≤ l[j])) := Lib.hid (by subst hj; exact ascAt_get hjl (by omega))
      clear hj
      go_wp2
      go_quiet ((go_at_call 42; (first | exact quiet_left (less_any _ _ _) | exact quiet_add_left (less_any _ _ _))))
      go_wp2
      · go_ret
        refine ⟨ret_bool (ascB_no hjl ?_).symm, q + nq, by simp⟩
        rw [HA.out]
        simp_all
      · have hj := HJ.out
        refine ⟨⟨j, by omega, by rw [hj1], ?_, _, rfl⟩, by simp [intOf]; omega⟩
        intro i h1 h2
        by_cases h3 : i = j
        · subst h3
          rw [HA.out]
          simp_all
        · exact HT.out i (by omega) h2
    · go_wp2
      go_ret
      refine ⟨ret_bool ?_, _, rfl⟩
      refine (ascB_true.2 fun j hj => ?_).symm
      by_cases h0 : j = 0
      · subst h0; rfl
      · exact HT.out j (by omega) hj
set_option maxHeartbeats 400000 in
theorem implTimes_any (A : Option Addr) (c : Nat) (l : List Int) (w : World) (ha : Rd eInt w A l) (hl : l.length ≤ 1099511627776) :
    Calls Try.prog 37 #[.slice A l.length c] w fun e w' => e = .returned (.bool (timesB l)) ∧ ∃ q, w' = w.drewN q := by
  go_enter Try.func37, Try.ntmps37
  go_wp2_with (first
    | (go_at_call 40; refine (allWithin_any _ _ l _ _ _ ha (by omega)).mono ?_; rintro e w' ⟨rfl, rfl⟩)
    | (go_at_call 41; refine (sorted_any _ _ l _ ha (by omega)).mono ?_; rintro e w' ⟨rfl, q, rfl⟩))
  all_goals go_ret
  all_goals first
    | (refine ⟨?_, q, rfl⟩; simp [timesB]; (try simp_all); (try omega); done)
    | (refine ⟨?_, 0, rfl⟩; simp [timesB]; (try simp_all); (try omega); done)
theorem timesB_no {l : List Int} {k : Nat} (hk : k < l.length) (h : inB l[k] 0 100000 = false ∨ ascAt l k = false) : timesB l = false := by
  rcases h with h | h
  · simp [timesB, allIn_no hk h]
  · simp [timesB, ascB_no hk h]
set_option maxHeartbeats 800000 in
theorem specTimes_any (A : Option Addr) (c : Nat) (l : List Int) (w : World) (ha : Rd eInt w A l) (hl : l.length ≤ 1099511627776) :
    Calls Try.prog 36 #[.slice A l.length c] w fun e w' => e = .returned (.bool (timesB l)) ∧ ∃ q, w' = w.drewN q := by
  go_enter Try.func36, Try.ntmps36
  go_wp2
  go_loopw [3] (fun i wr => ∃ k : Nat, k ≤ l.length ∧ i = .int .i64 k ∧ allIn (l.take k) 0 100000 = true ∧ (∀ j, j < k → ascAt l j = true) ∧ ∃ q, wr = w.drewN q) (fun i _ => l.length - (intOf i).toNat)
  case atStart => exact ⟨0, Nat.zero_le _, rfl, rfl, fun j h => by omega, 0, rfl⟩
  case round =>
    obtain ⟨k, hk, rfl, ht, hs, q, rfl⟩ := hrel
    have HT := Lib.hid ht
    have HS := Lib.hid hs
    clear ht hs
    by_cases hlt : k < l.length
    · obtain ⟨b, off, rfl, hbl, hc⟩ := ha.int hlt
      obtain ⟨x, hx⟩ : ∃ x, x = l[k] := ⟨_, rfl⟩
      have HX := Lib.hid hx
      rw [← hx] at hc
      clear hx
      cases hin : inB x 0 100000
      · have HI := Lib.hid hin
        go_wp2
        go_quiet ((go_at_call 28; (first | exact quiet_left (l1In_any _ _ _ _) | exact quiet_add_left (l1In_any _ _ _ _))))
        go_wp2
        go_ret
        exact ⟨ret_bool (timesB_no hlt (.inl (by rw [← HX.out]; exact HI.out))).symm, q + nq, by simp⟩
      · have HI := Lib.hid hin
        have HN : Hid (allIn (l.take (k + 1)) 0 100000 = true) := Lib.hid (allIn_take HT.out hlt (by rw [← HX.out]; exact HI.out))
        by_cases h0 : k = 0
        · have hj0 : decide (0 < (k : Int)) = false := by simp; omega
          have hj2 : decide (0 < k) = false := by simp; omega
          have H0 := Lib.hid h0
          clear h0
          go_wp2
          go_quiet ((go_at_call 28; (first | exact quiet_left (l1In_any _ _ _ _) | exact quiet_add_left (l1In_any _ _ _ _))))
          go_wp2
          refine ⟨⟨k + 1, by omega, by go_num, HN.out, ?_, _, rfl⟩, by simp [intOf]; omega⟩
          intro j h1
          have h0 := H0.out
          have : j = 0 := by omega
          subst this; rfl
        · obtain ⟨m, hm⟩ : ∃ m, k = m + 1 := ⟨k - 1, by omega⟩
          have hml : m < l.length := by omega
          have hj0 : decide (0 < (k : Int)) = true := by simp; omega
          have hj2 : decide (0 < k) = true := by simp; omega
          have hj1 : (k : Int) - 1 = (m : Int) := by omega
          clear h0
          obtain ⟨b2, off2, he2, hbl2, hc2⟩ := ha.int hml
          cases he2
          have HA : Hid (ascAt l k = decide (l[m] ≤ l[k])) := Lib.hid (by subst hm; exact ascAt_get hlt (by omega))
          have HM := Lib.hid hm
          clear hm
          cases hle : decide (l[m] ≤ x)
          · have HL := Lib.hid hle
            have hgt : x < l[m] := by simpa using hle
            go_wp2
            go_quiet ((go_at_call 28; (first | exact quiet_left (l1In_any _ _ _ _) | exact quiet_add_left (l1In_any _ _ _ _))))
            go_wp2
            go_ret
            exact ⟨ret_bool (timesB_no hlt (.inr (by rw [HA.out, ← HX.out]; exact HL.out))).symm, q + nq, by simp⟩
          · have HL := Lib.hid hle
            have hgt : ¬ x < l[m] := by simpa using hle
            go_wp2
            go_quiet ((go_at_call 28; (first | exact quiet_left (l1In_any _ _ _ _) | exact quiet_add_left (l1In_any _ _ _ _))))
            go_wp2
            refine ⟨⟨k + 1, by omega, by go_num, HN.out, ?_, _, rfl⟩, by simp [intOf]; omega⟩
            intro j h1
            by_cases h3 : j = k
            · subst h3
              rw [HA.out, ← HX.out]; exact HL.out
            · exact HS.out j (by omega)
    · go_wp2
      go_ret
      refine ⟨ret_bool ?_, q, by simp⟩
      have h1 := HT.out
      rw [List.take_of_length_le (by omega)] at h1
      have h2 : ascB l = true := ascB_true.2 fun j hj => HS.out j (by omega)
      simp [timesB, h1, h2]
      try omega
def grantStep (cost rate most : Int) (s : Bk × List Bool) (x : Int) : Bk × List Bool :=
  (if cost ≤ (fillTo s.1 x rate most).t then ⟨(fillTo s.1 x rate most).t - cost, x⟩ else fillTo s.1 x rate most, s.2 ++ [decide (cost ≤ (fillTo s.1 x rate most).t)])
def grantAt (l : List Int) (cost rate most : Int) (k : Nat) : Bk × List Bool := (l.take k).foldl (grantStep cost rate most) (⟨most, 0⟩, [])
theorem grantAt_succ (l : List Int) (cost rate most : Int) (k : Nat) (hk : k < l.length) : grantAt l cost rate most (k + 1) = grantStep cost rate most (grantAt l cost rate most k) l[k] := by
  unfold grantAt; rw [List.take_succ_eq_append_getElem hk, List.foldl_append]; rfl
def grantOk (l : List Int) (cost rate most : Int) : Bool := timesB l && inB cost 0 1000 && ratesOk rate most
def grantB (l : List Int) (cost rate most : Int) : List Bool := if grantOk l cost rate most then (grantAt l cost rate most l.length).2 else []
theorem grantAt_len (l : List Int) (cost rate most : Int) (k : Nat) (hk : k ≤ l.length) : (grantAt l cost rate most k).2.length = k := by
  induction k with
  | zero => simp [grantAt]
  | succ k ih => rw [grantAt_succ l cost rate most k (by omega)]; simp [grantStep, ih (by omega)]
theorem grantB_lens (l : List Int) (cost rate most : Int) : (grantB l cost rate most).length ≤ l.length := by
  unfold grantB; split
  · rw [grantAt_len _ _ _ _ _ (Nat.le_refl _)]; omega
  · simp
def bkGood (most : Int) (b : Bk) (t : Int) : Prop := 0 ≤ b.t ∧ b.t ≤ most ∧ b.l = t
theorem grantAt_inv (l : List Int) (cost rate most : Int) (h : grantOk l cost rate most = true) (k : Nat) (hk : k ≤ l.length) :
    0 ≤ (grantAt l cost rate most k).1.t ∧ (grantAt l cost rate most k).1.t ≤ most ∧ 0 ≤ (grantAt l cost rate most k).1.l ∧ (grantAt l cost rate most k).1.l ≤ 100000 ∧ (∀ h : k < l.length, (grantAt l cost rate most k).1.l ≤ l[k]) := by
  simp only [grantOk, timesB, ratesOk, Bool.and_eq_true, inB_true, decide_eq_true_eq] at h
  obtain ⟨⟨⟨⟨h1, h2⟩, h3⟩, h4⟩, h5, h6⟩ := h
  induction k with
  | zero =>
    simp only [grantAt, List.take_zero, List.foldl_nil]
    exact ⟨by omega, by omega, by omega, by omega, fun h => (allIn_get h2 h).1⟩
  | succ k ih =>
    have hk' : k < l.length := by omega
    obtain ⟨a1, a2, a3, a4, a5⟩ := ih (by omega)
    have a6 := a5 hk'
    have hx := allIn_get h2 hk'
    rw [grantAt_succ l cost rate most k hk']
    generalize (grantAt l cost rate most k) = s at a1 a2 a3 a4 a6 ⊢
    have hm0 : 0 ≤ rate * (l[k] - s.1.l) := Int.mul_nonneg (by omega) (by omega)
    have ef : (fillTo s.1 l[k] rate most).t = min most (s.1.t + rate * (l[k] - s.1.l)) := rfl
    have el : (fillTo s.1 l[k] rate most).l = l[k] := rfl
    have hle : ∀ h : k + 1 < l.length, l[k] ≤ l[k + 1] := fun h => by
      have := ascB_true.1 h3 (k + 1) h
      rw [ascAt_get h (by omega)] at this
      simpa using this
    simp only [grantStep]
    by_cases hc : cost ≤ (fillTo s.1 l[k] rate most).t
    · rw [if_pos hc]
      exact ⟨by simp only; omega, by simp only; omega, by simp only; omega, by simp only; omega, fun h => hle h⟩
    · rw [if_neg hc]
      exact ⟨by omega, by omega, by omega, by omega, fun h => by rw [el]; exact hle h⟩
theorem grantAt_fill (l : List Int) (cost rate most : Int) (h : grantOk l cost rate most = true) (k : Nat) (hk : k < l.length) : fillOk (grantAt l cost rate most k).1 l[k] rate most = true := by
  obtain ⟨a1, a2, a3, a4, a5⟩ := grantAt_inv l cost rate most h k (by omega)
  simp only [grantOk, timesB, ratesOk, Bool.and_eq_true, inB_true, decide_eq_true_eq] at h
  obtain ⟨⟨⟨⟨h1, h2⟩, h3⟩, h4⟩, h5, h6⟩ := h
  have hx := allIn_get h2 hk
  have := a5 hk
  simp only [fillOk, Bool.and_eq_true, inB_true]
  omega
end Go.Proofs.Ytmgbenfmhgkogaa
