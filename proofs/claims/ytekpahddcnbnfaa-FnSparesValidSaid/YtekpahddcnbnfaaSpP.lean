/-
  Spare sectors: the plain laws of homes and marking. No condition.
-/
import Derived.Test.YtekpahddcnbnfaaBase
import Derived.Test.YtekpahddcnbnfaaNum
import Derived.Test.YtekpahddcnbnfaaInts
import Derived.Test.YtekpahddcnbnfaaApp
import Derived.Test.YtekpahddcnbnfaaIntsW
import Derived.Test.YtekpahddcnbnfaaLib
import Derived.Test.YtekpahddcnbnfaaSpares
import Derived.Test.YtekpahddcnbnfaaHome
import Derived.Test.YtekpahddcnbnfaaMark
namespace Go.Proofs.Ytekpahddcnbnfaa
open Go.RowKit
/-- bad sectors are different -/
theorem spares_ne {s : Sp} (h : sparesB s = true) {i j : Nat} (hi : i < s.bad.length) (hj : j < s.bad.length) (hij : i < j) : s.bad[i] ≠ s.bad[j] := by
  simp only [sparesB, Bool.and_eq_true] at h
  have := allK_iff.1 h.2 j hj
  rw [badOk_get hj, Bool.and_eq_true] at this
  have h2 := this.2
  simp only [Bool.not_eq_true', decide_eq_false_iff_not] at h2
  intro he
  exact h2 (he ▸ List.mem_take_iff_getElem.2 ⟨i, by omega, rfl⟩)
theorem spares_mk {s : Sp} (h1 : 1 ≤ s.sec ∧ s.sec ≤ 100000) (h2 : 0 ≤ s.cnt ∧ s.cnt ≤ 16) (h3 : (s.bad.length : Int) ≤ s.cnt) (h4 : badLow s.sec s.bad) (h5 : ∀ i j (hi : i < s.bad.length) (hj : j < s.bad.length), i < j → s.bad[i] ≠ s.bad[j]) : sparesB s = true := by
  simp only [sparesB, Bool.and_eq_true, inB_true, decide_eq_true_eq]
  refine ⟨⟨⟨h1, h2⟩, h3⟩, allK_iff.2 fun k hk => ?_⟩
  rw [badOk_get hk, Bool.and_eq_true, inB_true]
  have := h4 k hk
  refine ⟨by omega, ?_⟩
  simp only [Bool.not_eq_true', decide_eq_false_iff_not]
  intro hm
  obtain ⟨i, hi, he⟩ := List.mem_take_iff_getElem.1 hm
  exact h5 i k (by omega) hk (by omega) he
theorem spares_pop {s : Sp} (h : sparesB s = true) : sparesB ⟨s.sec, s.cnt, s.bad.take (s.bad.length - 1)⟩ = true := by
  obtain ⟨h1, h2, h3, h4⟩ := spares_parts h
  refine spares_mk h1 h2 (by simp; omega) ?_ ?_
  · intro k hk
    simp only [List.length_take] at hk
    simp only [List.getElem_take]
    exact h4 k (by omega)
  · intro i j hi hj hij
    simp only [List.length_take] at hi hj
    simp only [List.getElem_take]
    exact spares_ne h (by omega) (by omega) hij
theorem spares_twice {s : Sp} (hl : 0 < s.bad.length) : sparesB ⟨s.sec, s.cnt + 1, s.bad ++ [s.bad[0]]⟩ = false := by
  cases h : sparesB ⟨s.sec, s.cnt + 1, s.bad ++ [s.bad[0]]⟩
  · rfl
  · have := spares_ne h (i := 0) (j := s.bad.length) (by simp) (by simp) hl
    simp only [List.getElem_append_left hl] at this
    simp at this
/-- the way through bad sectors ends at a good one -/
theorem home_good {s : Sp} (h : sparesB s = true) (a : Int) : ∀ n : Nat, (s.sec + s.bad.length - a).toNat ≤ n → a < s.sec + s.bad.length → homeGo s.bad s.sec a ∉ s.bad ∧ (homeGo s.bad s.sec a = a ∨ s.sec ≤ homeGo s.bad s.sec a) ∧ homeGo s.bad s.sec a < s.sec + s.bad.length ∨ (s.sec + s.bad.length ≤ a) := by
  intro n
  induction n generalizing a with
  | zero => intro h1 h2; omega
  | succ n ih =>
    intro h1 h2
    obtain ⟨_, _, _, hv⟩ := spares_parts h
    by_cases hm : a ∈ s.bad
    · obtain ⟨k, hk, he⟩ := List.getElem_of_mem hm
      have hf : ∀ j (hj : j < k), s.bad[j] ≠ a := fun j hj => he ▸ spares_ne h (by omega) hk hj
      have hst := homeGo_step hv hk he hf
      have hlow := hv k hk
      rw [he] at hlow
      rw [hst]
      rcases ih (s.sec + k) (by omega) (by omega) with ⟨i1, i2, i3⟩ | i
      · left
        refine ⟨i1, ?_, i3⟩
        right
        rcases i2 with i2 | i2 <;> omega
      · omega
    · left
      rw [homeGo_none hm]
      exact ⟨hm, .inl rfl, h2⟩
theorem home_facts {s : Sp} (h : sparesB s = true) {a : Int} (h1 : a < s.sec) : homeGo s.bad s.sec a ∉ s.bad ∧ (homeGo s.bad s.sec a = a ∨ s.sec ≤ homeGo s.bad s.sec a) ∧ homeGo s.bad s.sec a < s.sec + s.bad.length := by
  rcases home_good h a _ (Nat.le_refl _) (by omega) with h2 | h2
  · exact h2
  · omega
/-- one more sector is bad -/
theorem home_more {s : Sp} {a x : Int} (_h1 : x < s.sec) : homeGo (s.bad ++ [homeGo s.bad s.sec a]) s.sec x = if homeGo s.bad s.sec x = homeGo s.bad s.sec a then s.sec + s.bad.length else homeGo s.bad s.sec x := by
  rw [homeGo_append]
  simp only [homeGo]
  by_cases he : homeGo s.bad s.sec x = homeGo s.bad s.sec a
  · rw [if_pos he.symm, if_pos he]
  · rw [if_neg (fun e => he e.symm), if_neg he]
/-- different sectors have different homes -/
theorem home_inj : ∀ (l : List Int) (nx : Int), (∀ k (hk : k < l.length), l[k] < nx + k) → ∀ x y, x < nx → y < nx → homeGo l nx x = homeGo l nx y → x = y := by
  intro l
  induction l with
  | nil => intro nx _ x y _ _ h; exact h
  | cons b r ih =>
    intro nx hv x y hx hy h
    simp only [homeGo] at h
    have hr : ∀ k (hk : k < r.length), r[k] < nx + 1 + k := fun k hk => by have := hv (k + 1) (by simpa using hk); simp at this; omega
    have := ih (nx + 1) hr _ _ (by split <;> omega) (by split <;> omega) h
    by_cases h1 : b = x
    · by_cases h2 : b = y
      · omega
      · rw [if_pos h1, if_neg h2] at this; omega
    · by_cases h2 : b = y
      · rw [if_neg h1, if_pos h2] at this; omega
      · rw [if_neg h1, if_neg h2] at this; exact this
theorem homes_differ {s : Sp} (h : sparesB s = true) {x y : Int} (hx : x < s.sec) (hy : y < s.sec) (hxy : x ≠ y) : homeGo s.bad s.sec x ≠ homeGo s.bad s.sec y := by
  obtain ⟨_, _, _, hv⟩ := spares_parts h
  exact fun he => hxy (home_inj s.bad s.sec (fun k hk => (hv k hk).2) x y hx hy he)
theorem mark_yes {s : Sp} (h : sparesB s = true) {a : Int} (ha : inB a 0 (s.sec - 1) = true) (hl : (s.bad.length : Int) < s.cnt) : markB s a = ⟨s.sec, s.cnt, s.bad ++ [homeGo s.bad s.sec a]⟩ ∧ markOk s a = true ∧ sparesB (markB s a) = true := by
  have hne : (s.bad.length : Int) ≠ s.cnt := by omega
  have e : markB s a = ⟨s.sec, s.cnt, s.bad ++ [homeGo s.bad s.sec a]⟩ := by simp [markB, h, ha, hne]
  obtain ⟨h1, h2, h3, h4⟩ := spares_parts h
  obtain ⟨a0, a1⟩ := inB_true.1 ha
  obtain ⟨g1, g2, g3⟩ := home_facts h (a := a) (by omega)
  refine ⟨e, by simp [markOk, h, ha, hne], ?_⟩
  rw [e]
  refine spares_mk h1 h2 (by simp; omega) ?_ ?_
  · intro k hk
    simp only [List.length_append, List.length_cons, List.length_nil] at hk
    by_cases hkl : k < s.bad.length
    · simp only [List.getElem_append_left hkl]; exact h4 k hkl
    · have : k = s.bad.length := by omega
      subst this
      simp
      omega
  · intro i j hi hj hij
    simp only [List.length_append, List.length_cons, List.length_nil] at hi hj
    have hil : i < s.bad.length := by omega
    simp only [List.getElem_append_left hil]
    by_cases hjl : j < s.bad.length
    · simp only [List.getElem_append_left hjl]; exact spares_ne h hil hjl hij
    · have : j = s.bad.length := by omega
      subst this
      simp
      exact fun he => g1 (he ▸ List.getElem_mem hil)
end Go.Proofs.Ytekpahddcnbnfaa
