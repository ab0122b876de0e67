/-
  Paths: the plain laws of sending: sums, parts, evenness. No condition.
-/
import Derived.Test.YtplmfcbikcjccaaBase
import Derived.Test.YtplmfcbikcjccaaNum
import Derived.Test.YtplmfcbikcjccaaPathM
namespace Go.Proofs.Ytplmfcbikcjccaa
open Go.RowKit
def sumLoad (l : List Pth) : Int := (l.map Pth.load).sum
theorem sumLoad_set {l : List Pth} {b : Nat} (hb : b < l.length) (p : Pth) : sumLoad (l.set b p) = sumLoad l - l[b].load + p.load := by
  induction l generalizing b with
  | nil => simp at hb
  | cons q r ih =>
    cases b with
    | zero => simp [sumLoad]; omega
    | succ b =>
      have := ih (b := b) (by simpa using hb)
      simp [sumLoad] at this ⊢; omega
theorem sumLoad_ge {l : List Pth} (h : ∀ p ∈ l, 0 ≤ p.load) {i : Nat} (hi : i < l.length) : l[i].load ≤ sumLoad l ∧ 0 ≤ sumLoad l := by
  induction l generalizing i with
  | nil => simp at hi
  | cons q r ih =>
    have hq := h q (by simp)
    have hr : 0 ≤ sumLoad r := by
      cases r with
      | nil => simp [sumLoad]
      | cons q' r' => exact (ih (fun p hp => h p (by simp [hp])) (i := 0) (by simp)).2
    have e : sumLoad (q :: r) = q.load + sumLoad r := by simp [sumLoad]
    cases i with
    | zero => rw [e]; simp; omega
    | succ i =>
      have := ih (fun p hp => h p (by simp [hp])) (i := i) (by simpa using hi)
      rw [e]; simp; omega
theorem sendTo_sum (l : List Pth) (k : Nat) : sumLoad (sendTo l k).1 + (sendTo l k).2 = sumLoad l + k := by
  induction k with
  | zero => simp [sendTo]
  | succ k ih =>
    rw [sendTo]
    obtain ⟨l', x, e⟩ : ∃ l' x, sendTo l k = (l', x) := ⟨_, _, rfl⟩
    rw [e] at ih ⊢
    rcases sendStep_cases l' x with ⟨_, e2⟩ | ⟨b, hb, _, hu, hl, _, e2⟩
    · rw [e2]; simp at ih ⊢; omega
    · rw [e2]; simp only [sumLoad_set hb] at ih ⊢; omega
theorem sendTo_add (l : List Pth) (h m : Nat) : sendTo l (h + m) = ((sendTo (sendTo l h).1 m).1, (sendTo l h).2 + (sendTo (sendTo l h).1 m).2) := by
  induction m with
  | zero => simp [sendTo]
  | succ m ih =>
    rw [show h + (m + 1) = (h + m) + 1 by omega, sendTo, ih, sendTo]
    unfold sendStep
    simp only
    split <;> simp <;> omega
theorem sendTo_up (l : List Pth) (k : Nat) (i : Nat) (hi : i < l.length) : ∃ h : i < (sendTo l k).1.length, (sendTo l k).1[i].up = l[i].up ∧ (l[i].up = false → (sendTo l k).1[i] = l[i]) := by
  induction k with
  | zero => exact ⟨hi, rfl, fun _ => rfl⟩
  | succ k ih =>
    obtain ⟨h, h1, h2⟩ := ih
    have hlen := sendTo_length l (k + 1)
    refine ⟨by omega, ?_⟩
    obtain ⟨l', x, e⟩ : ∃ l' x, sendTo l k = (l', x) := ⟨_, _, rfl⟩
    simp only [e] at h h1 h2
    have e1 : sendTo l (k + 1) = sendStep (l', x) := by rw [sendTo, e]
    rcases sendStep_cases l' x with ⟨_, e2⟩ | ⟨b, hb, _, hu, hl, _, e2⟩
    · simp only [e1, e2]; exact ⟨h1, h2⟩
    · simp only [e1, e2, List.getElem_set]
      split
      · rename_i hbi
        subst hbi
        rw [hu] at h1
        refine ⟨by simpa using h1, fun hf => ?_⟩
        rw [hf] at h1; cases h1
      · exact ⟨h1, h2⟩
/-- loads of paths that work differ by at most 1 -/
def even (l : List Pth) : Prop := ∀ i (hi : i < l.length) j (hj : j < l.length), l[i].up = true → l[j].up = true → l[i].load ≤ l[j].load + 1
theorem sendTo_even {l : List Pth} (h : even l) (k : Nat) : even (sendTo l k).1 := by
  induction k with
  | zero => exact h
  | succ k ih =>
    rw [sendTo]
    obtain ⟨l', x, e⟩ : ∃ l' x, sendTo l k = (l', x) := ⟨_, _, rfl⟩
    rw [e] at ih ⊢
    rcases sendStep_cases l' x with ⟨_, e2⟩ | ⟨b, hb, _, hu, hl, hm, e2⟩
    · rw [e2]; exact ih
    · rw [e2]
      intro i hi j hj hui huj
      simp only [List.length_set] at hi hj
      simp only [List.getElem_set] at hui huj ⊢
      by_cases hbi : b = i
      · subst hbi
        by_cases hbj : b = j
        · subst hbj; simp; omega
        · simp only [if_neg hbj] at huj ⊢
          have := hm j hj huj
          simp; omega
      · simp only [if_neg hbi] at hui ⊢
        by_cases hbj : b = j
        · subst hbj
          have := ih i hi b hb hui hu
          simp; simp at this; omega
        · simp only [if_neg hbj] at huj ⊢
          exact ih i hi j hj hui huj
def emptied (l : List Pth) : List Pth := l.map fun p => ⟨p.up, 0⟩
theorem emptied_get (l : List Pth) (i : Nat) (hi : i < (emptied l).length) : (emptied l)[i] = ⟨(l[i]'(by simpa [emptied] using hi)).up, 0⟩ := by simp [emptied]
theorem emptied_ok {l : List Pth} (h : pathsB l = true) : pathsB (emptied l) = true := by
  rw [pathsB_true] at h ⊢
  refine ⟨by simpa [emptied] using h.1, fun p hp => ?_⟩
  obtain ⟨i, hi, rfl⟩ := List.getElem_of_mem hp
  rw [emptied_get]
  exact pathOk_true.2 ⟨by simp, .inr rfl⟩
theorem emptied_even (l : List Pth) : even (emptied l) := by
  intro i hi j hj _ _
  rw [emptied_get, emptied_get]; simp
theorem emptied_sum (l : List Pth) : sumLoad (emptied l) = 0 := by
  induction l with
  | nil => rfl
  | cons p r ih => simp [emptied, sumLoad] at ih ⊢; omega
/-- at most 500 commands on empty paths: none is lost, or no path works -/
theorem sendTo_few {l : List Pth} (h : pathsB l = true) (k : Nat) (hk : k ≤ 500) : (sendTo (emptied l) k).2 = 0 ∨ bestTo (emptied l) (emptied l).length < 0 := by
  rcases best_cases (emptied l) with ⟨h1, _⟩ | ⟨b, h1, hb, hu, _, _, _⟩
  · right; omega
  · left
    induction k with
    | zero => rfl
    | succ k ih =>
      have ih := ih (by omega)
      rw [sendTo, sendStep]
      rcases best_cases (sendTo (emptied l) k).1 with ⟨_, h3⟩ | ⟨b', h3, hb', _⟩
      · exfalso
        obtain ⟨hb2, hu2, _⟩ := sendTo_up (emptied l) k b hb
        have h4 := h3 b hb2 (by rw [hu2]; exact hu)
        have hok := sendTo_ok (emptied_ok h) k
        have hge := sumLoad_ge (l := (sendTo (emptied l) k).1) (fun p hp => (pathOk_true.1 ((pathsB_true.1 hok).2 p hp)).1.1) hb2
        have hs := sendTo_sum (emptied l) k
        rw [emptied_sum] at hs
        omega
      · rw [if_neg (by omega)]
        exact ih
/-- the sum of the differences of the first k loads -/
def diffTo (a b : List Pth) : Nat → Int
  | 0 => 0
  | k + 1 => diffTo a b k + (a.getD k default).load - (b.getD k default).load
theorem diffTo_take (a b : List Pth) (k : Nat) (ha : k ≤ a.length) (hb : k ≤ b.length) : diffTo a b k = sumLoad (a.take k) - sumLoad (b.take k) := by
  induction k with
  | zero => simp [diffTo, sumLoad]
  | succ k ih =>
    rw [diffTo, ih (by omega) (by omega), List.take_succ_eq_append_getElem (by omega : k < a.length), List.take_succ_eq_append_getElem (by omega : k < b.length)]
    simp only [sumLoad, List.map_append, List.sum_append, List.map_cons, List.map_nil, List.sum_cons, List.sum_nil, List.getD_eq_getElem?_getD, List.getElem?_eq_getElem (show k < a.length by omega), List.getElem?_eq_getElem (show k < b.length by omega), Option.getD_some]
    omega
theorem diffTo_all (a b : List Pth) (h : a.length = b.length) : diffTo a b a.length = sumLoad a - sumLoad b := by
  rw [diffTo_take a b _ (Nat.le_refl _) (by omega), List.take_length, h, List.take_length]
theorem sendTo_diff (l : List Pth) (k : Nat) : diffTo (sendTo l k).1 l l.length + (sendTo l k).2 = k := by
  have h := sendTo_sum l k
  have h2 := diffTo_all (sendTo l k).1 l (sendTo_length l k)
  rw [sendTo_length] at h2
  omega
theorem dec_refl {α : Type} [DecidableEq α] (a : α) : decide (a = a) = true := by simp
theorem diffTo_bd (a b : List Pth) (ha : pathsB a = true) (hb : pathsB b = true) (k : Nat) (h1 : k ≤ a.length) (h2 : k ≤ b.length) : -1000 * (k : Int) ≤ diffTo a b k ∧ diffTo a b k ≤ 1000 * (k : Int) := by
  induction k with
  | zero => simp [diffTo]
  | succ k ih =>
    obtain ⟨i1, i2⟩ := ih (by omega) (by omega)
    have e1 := (pathsB_get ha (show k < a.length by omega)).1
    have e2 := (pathsB_get hb (show k < b.length by omega)).1
    have g1 : a.getD k default = a[k] := by simp [show k < a.length by omega]
    have g2 : b.getD k default = b[k] := by simp [show k < b.length by omega]
    rw [diffTo, g1, g2]
    omega
theorem diffTo_next (a b : List Pth) (k : Nat) (h1 : k < a.length) (h2 : k < b.length) : diffTo a b (k + 1) = diffTo a b k + a[k].load - b[k].load := by
  rw [diffTo]; simp [h1, h2]
theorem sendB_no1 {l : List Pth} {n : Int} (h : pathsB l = false) : sendB l n = ([], 0) := by simp [sendB, h]
theorem sendB_no2 {l : List Pth} {n : Int} (h : inB n 0 500 = false) : sendB l n = ([], 0) := by simp [sendB, h]
theorem sendB_yes {l : List Pth} {n : Nat} (h : pathsB l = true) (hn : n ≤ 500) : sendB l (n : Int) = sendTo l n := by
  have : inB (n : Int) 0 500 = true := inB_true.2 (by omega)
  simp [sendB, h, this]
theorem send_parts {l : List Pth} (n h : Nat) (hh : h ≤ n) (hv : pathsB l = true) (hn : n ≤ 500) : sendB (sendTo l h).1 ((n : Int) - (h : Int)) = ((sendTo l n).1, (sendTo l n).2 - (sendTo l h).2) := by
  obtain ⟨m, rfl⟩ : ∃ m, n = h + m := ⟨n - h, by omega⟩
  rw [show ((h + m : Nat) : Int) - (h : Int) = (m : Int) by omega, sendB_yes (sendTo_ok hv h) (by omega), sendTo_add]
  refine Prod.ext rfl ?_
  simp only
  omega
theorem send_lost {l : List Pth} (n : Nat) (hv : pathsB l = true) (h : (sendTo l n).2 ≠ 0) : chooseB (sendTo l n).1 = -1 := by
  unfold chooseB
  rw [sendTo_ok hv n]
  simp only [if_true]
  have h1 : bestTo (sendTo l n).1 (sendTo l n).1.length < 0 := Decidable.byContradiction fun hh => h (sendTo_none l n hh)
  have := bestTo_bd (sendTo l n).1 (sendTo l n).1.length
  omega
end Go.Proofs.Ytplmfcbikcjccaa
