/-
  Paths: the plain mathematics of valid paths, of the choice of a path and of sending. No condition.
-/
import Derived.Test.YtplmfcbikcjccaaBase
import Derived.Test.YtplmfcbikcjccaaNum
namespace Go.Proofs.Ytplmfcbikcjccaa
open Go.RowKit
structure Pth where
  up : Bool
  load : Int
deriving DecidableEq, Inhabited
def ePath : Enc Pth := ⟨fun p => [.bool p.up, .int .i64 p.load], 2, by omega, fun _ => rfl, by intro x u h; simp at h; rcases h with rfl | rfl <;> rfl⟩
def pathOk (p : Pth) : Bool := inB p.load 0 1000 && (p.up || p.load == 0)
theorem pathOk_true {p : Pth} : pathOk p = true ↔ (0 ≤ p.load ∧ p.load ≤ 1000) ∧ (p.up = true ∨ p.load = 0) := by simp [pathOk, inB]
def pathsB (l : List Pth) : Bool := decide (l.length ≤ 6) && l.all pathOk
theorem pathsB_true {l : List Pth} : pathsB l = true ↔ l.length ≤ 6 ∧ ∀ p ∈ l, pathOk p = true := by simp [pathsB]
theorem pathsB_get {l : List Pth} (h : pathsB l = true) {k : Nat} (hk : k < l.length) : (0 ≤ l[k].load ∧ l[k].load ≤ 1000) ∧ (l[k].up = true ∨ l[k].load = 0) := pathOk_true.1 ((pathsB_true.1 h).2 _ (List.getElem_mem hk))
/-- path k is better than the best so far -/
def betterB (l : List Pth) (best : Int) (p : Pth) : Bool := p.up && decide (p.load < 1000) && (decide (best < 0) || decide (p.load < (l.getD best.toNat default).load))
def bestTo (l : List Pth) : Nat → Int
  | 0 => -1
  | k + 1 => if betterB l (bestTo l k) (l.getD k default) then (k : Int) else bestTo l k
theorem bestTo_bd (l : List Pth) (k : Nat) : -1 ≤ bestTo l k ∧ bestTo l k < k := by
  induction k with
  | zero => simp [bestTo]
  | succ k ih => unfold bestTo; split <;> omega
theorem bestTo_bd0 (l : List Pth) (k : Nat) : -1 ≤ bestTo l k ∧ bestTo l k ≤ (k : Int) - 1 := by have := bestTo_bd l k; omega
def chooseB (l : List Pth) : Int := if pathsB l then bestTo l l.length else -1
/-- one command more -/
def sendStep (s : List Pth × Int) : List Pth × Int :=
  if bestTo s.1 s.1.length < 0 then (s.1, s.2 + 1) else (s.1.set (bestTo s.1 s.1.length).toNat ⟨(s.1.getD (bestTo s.1 s.1.length).toNat default).up, (s.1.getD (bestTo s.1 s.1.length).toNat default).load + 1⟩, s.2)
def sendTo (l : List Pth) : Nat → List Pth × Int
  | 0 => (l, 0)
  | k + 1 => sendStep (sendTo l k)
def sendB (l : List Pth) (n : Int) : List Pth × Int := if pathsB l && inB n 0 500 then sendTo l n.toNat else ([], 0)
def failB (l : List Pth) (n : Int) : List Pth × Int :=
  if pathsB l && inB n 0 (l.length - 1) then
    ((sendTo (l.set n.toNat ⟨false, 0⟩) (min (l.getD n.toNat default).load 500).toNat).1, (sendTo (l.set n.toNat ⟨false, 0⟩) (min (l.getD n.toNat default).load 500).toNat).2 + max 0 ((l.getD n.toNat default).load - 500))
  else ([], 0)
/-- what the best path is -/
theorem bestTo_spec (l : List Pth) : ∀ k, k ≤ l.length → (bestTo l k = -1 ∧ ∀ i (hi : i < l.length), i < k → l[i].up = true → 1000 ≤ l[i].load) ∨
    (∃ b : Nat, bestTo l k = b ∧ b < k ∧ ∃ hb : b < l.length, l[b].up = true ∧ l[b].load < 1000 ∧ (∀ i (hi : i < l.length), i < k → l[i].up = true → l[b].load ≤ l[i].load) ∧ ∀ i (hi : i < l.length), i < b → l[i].up = true → l[b].load < l[i].load) := by
  intro k
  induction k with
  | zero => intro _; left; exact ⟨rfl, fun i _ h => absurd h (by omega)⟩
  | succ k ih =>
    intro hk
    have hkl : k < l.length := by omega
    have hg : l.getD k default = l[k] := by simp [hkl]
    rcases ih (by omega) with ⟨h1, h2⟩ | ⟨b, h1, hbk, hbl, hu, hl1, hmin, hfirst⟩
    · unfold bestTo
      rw [h1, hg]
      by_cases hb : betterB l (-1) l[k] = true
      · rw [if_pos hb]
        right
        simp only [betterB, Bool.and_eq_true, decide_eq_true_eq] at hb
        refine ⟨k, rfl, by omega, hkl, hb.1.1, hb.1.2, ?_, ?_⟩
        · intro i hi hik hiu
          by_cases hik2 : i = k
          · subst hik2; omega
          · have := h2 i hi (by omega) hiu; omega
        · intro i hi hik hiu
          have := h2 i hi (by omega) hiu; omega
      · rw [if_neg hb]
        left
        refine ⟨rfl, fun i hi hik hiu => ?_⟩
        by_cases hik2 : i = k
        · subst hik2
          simp only [betterB, Bool.and_eq_true, decide_eq_true_eq, hiu, true_and, Bool.or_eq_true] at hb
          have : ¬ l[i].load < 1000 := fun h => hb ⟨h, .inl (by omega)⟩
          omega
        · exact h2 i hi (by omega) hiu
    · unfold bestTo
      have hgb : l.getD (bestTo l k).toNat default = l[b] := by rw [h1]; simp [hbl]
      by_cases hb : betterB l (bestTo l k) (l.getD k default) = true
      · rw [if_pos hb]
        right
        rw [hg] at hb
        simp only [betterB, hgb, Bool.and_eq_true, decide_eq_true_eq, Bool.or_eq_true] at hb
        obtain ⟨⟨hu', hl'⟩, hor⟩ := hb
        have hlt : l[k].load < l[b].load := by rcases hor with h | h <;> omega
        refine ⟨k, rfl, by omega, hkl, hu', hl', ?_, ?_⟩
        · intro i hi hik hiu
          by_cases hik2 : i = k
          · subst hik2; omega
          · have := hmin i hi (by omega) hiu; omega
        · intro i hi hik hiu
          have := hmin i hi (by omega) hiu; omega
      · rw [if_neg hb]
        right
        refine ⟨b, h1, by omega, hbl, hu, hl1, ?_, hfirst⟩
        intro i hi hik hiu
        by_cases hik2 : i = k
        · subst hik2
          rw [hg] at hb
          simp only [betterB, hgb, Bool.and_eq_true, decide_eq_true_eq, hiu, true_and, Bool.or_eq_true] at hb
          by_cases hlt : l[i].load < l[b].load
          · exfalso; exact hb ⟨by omega, .inr hlt⟩
          · omega
        · exact hmin i hi (by omega) hiu
theorem best_cases (l : List Pth) : (bestTo l l.length = -1 ∧ ∀ i (hi : i < l.length), l[i].up = true → 1000 ≤ l[i].load) ∨
    (∃ b : Nat, bestTo l l.length = b ∧ ∃ hb : b < l.length, l[b].up = true ∧ l[b].load < 1000 ∧ (∀ i (hi : i < l.length), l[i].up = true → l[b].load ≤ l[i].load) ∧ ∀ i (hi : i < l.length), i < b → l[i].up = true → l[b].load < l[i].load) := by
  rcases bestTo_spec l l.length (Nat.le_refl _) with ⟨h1, h2⟩ | ⟨b, h1, _, h2, h3, h4, h5, h6⟩
  · exact .inl ⟨h1, fun i hi => h2 i hi hi⟩
  · exact .inr ⟨b, h1, h2, h3, h4, fun i hi => h5 i hi hi, h6⟩
/-- one command more, by its two cases -/
theorem sendStep_cases (l : List Pth) (x : Int) : (bestTo l l.length = -1 ∧ sendStep (l, x) = (l, x + 1)) ∨
    (∃ b : Nat, ∃ hb : b < l.length, bestTo l l.length = b ∧ l[b].up = true ∧ l[b].load < 1000 ∧ (∀ i (hi : i < l.length), l[i].up = true → l[b].load ≤ l[i].load) ∧ sendStep (l, x) = (l.set b ⟨true, l[b].load + 1⟩, x)) := by
  rcases best_cases l with ⟨h1, _⟩ | ⟨b, h1, hb, hu, hl, hm, _⟩
  · left; exact ⟨h1, by simp [sendStep, h1]⟩
  · right
    refine ⟨b, hb, h1, hu, hl, hm, ?_⟩
    simp only [sendStep, h1]
    rw [if_neg (by omega)]
    simp [hb, hu]
theorem sendStep_length (s : List Pth × Int) : (sendStep s).1.length = s.1.length := by unfold sendStep; split <;> simp
theorem sendTo_length (l : List Pth) (k : Nat) : (sendTo l k).1.length = l.length := by
  induction k with
  | zero => rfl
  | succ k ih => rw [sendTo, sendStep_length, ih]
theorem pathsB_set {l : List Pth} (h : pathsB l = true) (b : Nat) (p : Pth) (hp : pathOk p = true) : pathsB (l.set b p) = true := by
  rw [pathsB_true] at h ⊢
  refine ⟨by simpa using h.1, fun q hq => ?_⟩
  rcases List.mem_or_eq_of_mem_set hq with hq | rfl
  · exact h.2 q hq
  · exact hp
theorem sendTo_ok {l : List Pth} (h : pathsB l = true) (k : Nat) : pathsB (sendTo l k).1 = true := by
  induction k with
  | zero => exact h
  | succ k ih =>
    rw [sendTo]
    obtain ⟨l', x, e⟩ : ∃ l' x, sendTo l k = (l', x) := ⟨_, _, rfl⟩
    rw [e] at ih ⊢
    rcases sendStep_cases l' x with ⟨_, e2⟩ | ⟨b, hb, _, hu, hl, _, e2⟩
    · rw [e2]; exact ih
    · rw [e2]
      refine pathsB_set ih _ _ (pathOk_true.2 ?_)
      have := pathsB_get ih hb
      simp at this ⊢; omega
theorem sendTo_lost (l : List Pth) (k : Nat) : 0 ≤ (sendTo l k).2 ∧ (sendTo l k).2 ≤ k := by
  induction k with
  | zero => simp [sendTo]
  | succ k ih => rw [sendTo]; unfold sendStep; split <;> simp <;> omega
/-- nothing can be sent any more: the rest is lost -/
theorem sendTo_stuck (l : List Pth) (k : Nat) (h : bestTo (sendTo l k).1 (sendTo l k).1.length < 0) (j : Nat) : sendTo l (k + j) = ((sendTo l k).1, (sendTo l k).2 + j) := by
  induction j with
  | zero => simp
  | succ j ih =>
    rw [show k + (j + 1) = (k + j) + 1 by omega, sendTo, ih, sendStep]
    simp only
    rw [if_pos h]
    simp; omega
/-- something can be sent: nothing has been lost -/
theorem sendTo_none (l : List Pth) (k : Nat) (h : ¬ bestTo (sendTo l k).1 (sendTo l k).1.length < 0) : (sendTo l k).2 = 0 := by
  induction k with
  | zero => rfl
  | succ k ih =>
    by_cases hk : bestTo (sendTo l k).1 (sendTo l k).1.length < 0
    · have := sendTo_stuck l k hk 1
      rw [this] at h
      exact absurd hk h
    · rw [sendTo, sendStep, if_neg hk]
      exact ih hk
theorem sendB_len (l : List Pth) (n : Int) : (sendB l n).1.length ≤ l.length := by
  unfold sendB; split
  · rw [sendTo_length]; exact Nat.le_refl _
  · simp
theorem failB_len (l : List Pth) (n : Int) : (failB l n).1.length ≤ l.length := by
  unfold failB; split
  · simp only [sendTo_length, List.length_set]; exact Nat.le_refl _
  · simp
end Go.Proofs.Ytplmfcbikcjccaa
