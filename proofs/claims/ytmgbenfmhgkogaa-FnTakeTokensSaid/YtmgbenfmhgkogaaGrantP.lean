/-
  Buckets and granted times: the plain laws. No condition.
-/
import Derived.Test.YtmgbenfmhgkogaaBase
import Derived.Test.YtmgbenfmhgkogaaNum
import Derived.Test.YtmgbenfmhgkogaaInts
import Derived.Test.YtmgbenfmhgkogaaLib
import Derived.Test.YtmgbenfmhgkogaaBucket
import Derived.Test.YtmgbenfmhgkogaaGrant
namespace Go.Proofs.Ytmgbenfmhgkogaa
open Go.RowKit
theorem fillTo_two (b : Bk) (mid now rate most : Int) (h1 : b.l ≤ mid) (h2 : mid ≤ now) (hr : 0 ≤ rate) : fillTo (fillTo b mid rate most) now rate most = fillTo b now rate most := by
  have e : rate * (now - b.l) = rate * (mid - b.l) + rate * (now - mid) := by rw [← Int.mul_add]; congr 1; omega
  have a1 : 0 ≤ rate * (mid - b.l) := Int.mul_nonneg hr (by omega)
  have a2 : 0 ≤ rate * (now - mid) := Int.mul_nonneg hr (by omega)
  simp only [fillTo, Bk.mk.injEq, and_true]
  rw [e]
  generalize rate * (mid - b.l) = x at *
  generalize rate * (now - mid) = y at *
  omega
/-- what has been granted costs no more than the rate gives -/
def spent (cost : Int) (l : List Bool) : Int := cost * (l.count true : Nat)
theorem spent_snoc (cost : Int) (l : List Bool) (b : Bool) : spent cost (l ++ [b]) = spent cost l + if b then cost else 0 := by
  unfold spent
  rw [List.count_append]
  cases b
  · simp
  · simp [Int.mul_add]
theorem grantAt_spent (l : List Int) (cost rate most : Int) (h : grantOk l cost rate most = true) (k : Nat) (hk : k ≤ l.length) :
    spent cost (grantAt l cost rate most k).2 + (grantAt l cost rate most k).1.t ≤ most + rate * (grantAt l cost rate most k).1.l := by
  induction k with
  | zero => simp [grantAt, spent]
  | succ k ih =>
    have hk' : k < l.length := by omega
    have ih := ih (by omega)
    have hi := grantAt_inv l cost rate most h k (by omega)
    obtain ⟨-, -, -, -, a5⟩ := hi
    have a6 := a5 hk'
    rw [grantAt_succ l cost rate most k hk']
    generalize (grantAt l cost rate most k) = s at ih a6 ⊢
    have e : rate * l[k] = rate * s.1.l + rate * (l[k] - s.1.l) := by rw [← Int.mul_add]; congr 1; omega
    have ef : (fillTo s.1 l[k] rate most).t = min most (s.1.t + rate * (l[k] - s.1.l)) := rfl
    have el : (fillTo s.1 l[k] rate most).l = l[k] := rfl
    simp only [grantStep, spent_snoc]
    by_cases hc : cost ≤ (fillTo s.1 l[k] rate most).t
    · rw [if_pos hc]; simp only [hc, decide_true, if_true]
      rw [e]; omega
    · rw [if_neg hc]; simp only [hc, decide_false, el]; rw [e]; simp; omega
theorem grantAt_pre (l : List Int) (cost rate most : Int) (k : Nat) (j : Nat) (hk : k ≤ l.length) (hj : j ≤ k) : (grantAt l cost rate most j).2 = (grantAt l cost rate most k).2.take j := by
  induction k with
  | zero => have : j = 0 := by omega
            subst this; simp [grantAt]
  | succ k ih =>
    by_cases hjk : j = k + 1
    · subst hjk; rw [List.take_of_length_le]; rw [grantAt_len _ _ _ _ _ hk]; omega
    · rw [ih (by omega) (by omega), grantAt_succ l cost rate most k (by omega)]
      simp only [grantStep]
      rw [List.take_append_of_le_length]; rw [grantAt_len _ _ _ _ _ (by omega)]; omega
theorem grantB_spent (l : List Int) (cost rate most : Int) (h : grantOk l cost rate most = true) (k : Nat) (hk : k < l.length) :
    spent cost ((grantB l cost rate most).take (k + 1)) ≤ most + rate * l[k] := by
  have h1 := grantAt_spent l cost rate most h (k + 1) (by omega)
  have h2 := (grantAt_inv l cost rate most h (k + 1) (by omega)).1
  have h3 := grantAt_pre l cost rate most l.length (k + 1) (by omega) (by omega)
  have h4 : grantB l cost rate most = (grantAt l cost rate most l.length).2 := by simp [grantB, h]
  rw [h4, ← h3]
  have h5 : (grantAt l cost rate most (k + 1)).1.l = l[k] := by
    rw [grantAt_succ l cost rate most k hk]; simp only [grantStep]; split <;> rfl
  rw [h5] at h1
  omega
theorem grantB_free (l : List Int) (cost rate most : Int) (h : grantOk l cost rate most = true) : grantB l 0 rate most = List.replicate l.length true := by
  have h0 : grantOk l 0 rate most = true := by simp only [grantOk, Bool.and_eq_true] at h ⊢; exact ⟨⟨h.1.1, rfl⟩, h.2⟩
  have h4 : grantB l 0 rate most = (grantAt l 0 rate most l.length).2 := by simp [grantB, h0]
  rw [h4]
  have : ∀ k, k ≤ l.length → (grantAt l 0 rate most k).2 = List.replicate k true := by
    intro k
    induction k with
    | zero => intro _; simp [grantAt]
    | succ k ih =>
      intro hk
      have hf := grantAt_fill l 0 rate most h0 k (by omega)
      obtain ⟨a1, a2, a3, a4, a5⟩ := grantAt_inv l 0 rate most h0 k (by omega)
      have a6 := a5 (by omega)
      rw [grantAt_succ l 0 rate most k (by omega)]
      have hr : 0 ≤ rate := by simp only [grantOk, ratesOk, Bool.and_eq_true, inB_true] at h0; exact h0.2.1.1
      have hm0 : 0 ≤ rate * (l[k] - (grantAt l 0 rate most k).1.l) := Int.mul_nonneg hr (by omega)
      have ef : (fillTo (grantAt l 0 rate most k).1 l[k] rate most).t = min most ((grantAt l 0 rate most k).1.t + rate * (l[k] - (grantAt l 0 rate most k).1.l)) := rfl
      have : decide (0 ≤ (fillTo (grantAt l 0 rate most k).1 l[k] rate most).t) = true := decide_eq_true (by omega)
      simp only [grantStep, this, ih (by omega)]
      rw [← List.replicate_succ']
  exact this _ (Nat.le_refl _)
def steadyL (n : Nat) : List Int := (List.range n).map fun i : Nat => (i : Int)
theorem steadyL_length (n : Nat) : (steadyL n).length = n := by simp [steadyL]
theorem steadyL_get (n : Nat) (i : Nat) (h : i < (steadyL n).length) : (steadyL n)[i] = (i : Int) := by simp [steadyL]
theorem steadyL_succ (n : Nat) : steadyL (n + 1) = steadyL n ++ [(n : Int)] := by simp [steadyL, List.range_succ]
theorem steady_times (n : Nat) (hn : n ≤ 60) : timesB (steadyL n) = true := by
  simp only [timesB, Bool.and_eq_true, decide_eq_true_eq, steadyL_length]
  refine ⟨⟨hn, ?_⟩, ?_⟩
  · rw [allIn, List.all_eq_true]
    intro x hx
    obtain ⟨i, hi, rfl⟩ := List.getElem_of_mem hx
    rw [steadyL_get, inB_true]
    rw [steadyL_length] at hi
    omega
  · rw [ascB_true]
    intro k hk
    by_cases h0 : k = 0
    · subst h0; rfl
    · rw [ascAt_get hk (by omega), steadyL_get, steadyL_get]
      exact decide_eq_true (by omega)
theorem steady_all (n : Nat) (rate most : Int) (h : grantOk (steadyL n) rate rate most = true) : grantB (steadyL n) rate rate most = List.replicate n (decide (rate ≤ most)) := by
  have h4 : grantB (steadyL n) rate rate most = (grantAt (steadyL n) rate rate most n).2 := by simp [grantB, h, steadyL_length]
  rw [h4]
  have hl := steadyL_length n
  have hr : 0 ≤ rate := by simp only [grantOk, ratesOk, Bool.and_eq_true, inB_true] at h; exact h.2.1.1
  have hm : 0 ≤ most := by simp only [grantOk, ratesOk, Bool.and_eq_true, inB_true] at h; exact h.2.2.1
  have : ∀ k, k ≤ n → (grantAt (steadyL n) rate rate most k).2 = List.replicate k (decide (rate ≤ most)) ∧ (rate ≤ most → (k = 0 ∧ (grantAt (steadyL n) rate rate most k).1 = ⟨most, 0⟩) ∨ (grantAt (steadyL n) rate rate most k).1 = ⟨most - rate, (k : Int) - 1⟩) := by
    intro k
    induction k with
    | zero => intro _; exact ⟨by simp [grantAt], fun _ => .inl ⟨rfl, by simp [grantAt]⟩⟩
    | succ k ih =>
      intro hk
      obtain ⟨i1, i2⟩ := ih (by omega)
      have hk' : k < (steadyL n).length := by omega
      rw [grantAt_succ (steadyL n) rate rate most k hk', steadyL_get]
      by_cases hc : rate ≤ most
      · have hf : fillTo (grantAt (steadyL n) rate rate most k).1 (k : Int) rate most = ⟨most, k⟩ := by
          rcases i2 hc with ⟨h0, e⟩ | e
          · rw [e, h0]; simp [fillTo]
          · rw [e]; simp only [fillTo, Bk.mk.injEq, and_true]
            rw [show (k : Int) - ((k : Int) - 1) = 1 by omega]; omega
        simp only [grantStep, hf, hc, decide_true, i1, if_true]
        refine ⟨by rw [← List.replicate_succ'], fun _ => .inr ?_⟩
        simp
      · have ef : (fillTo (grantAt (steadyL n) rate rate most k).1 (k : Int) rate most).t = min most ((grantAt (steadyL n) rate rate most k).1.t + rate * ((k : Int) - (grantAt (steadyL n) rate rate most k).1.l)) := rfl
        have hf : decide (rate ≤ (fillTo (grantAt (steadyL n) rate rate most k).1 (k : Int) rate most).t) = false := decide_eq_false (by omega)
        have hd : decide (rate ≤ most) = false := decide_eq_false hc
        refine ⟨?_, fun h => absurd h hc⟩
        simp only [grantStep, hf, hd, i1]
        rw [← List.replicate_succ']
  exact (this n (Nat.le_refl _)).1
end Go.Proofs.Ytmgbenfmhgkogaa
