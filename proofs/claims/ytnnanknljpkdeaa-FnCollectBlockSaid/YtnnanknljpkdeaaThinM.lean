/-
  Thin volumes: the plain mathematics. No condition.
-/
import Derived.Test.YtnnanknljpkdeaaBase
import Derived.Test.YtnnanknljpkdeaaNum
import Derived.Test.YtnnanknljpkdeaaInts
import Derived.Test.YtnnanknljpkdeaaApp
import Derived.Test.YtnnanknljpkdeaaIntsW
import Derived.Test.YtnnanknljpkdeaaLib
import Derived.Test.YtnnanknljpkdeaaSpares
import Derived.Test.YtnnanknljpkdeaaOwn
import Derived.Test.YtnnanknljpkdeaaThin
namespace Go.Proofs.Ytnnanknljpkdeaa
open Go.RowKit
/-- sector k has a place of the pool, or none, and no sector before it has the same -/
def thinOkAt (t : Th) (k : Nat) : Bool := inB (t.whr.getD k 0) (-1) (t.pool.length - 1) && !(decide (0 ≤ t.whr.getD k 0) && decide (t.whr.getD k 0 ∈ t.whr.take k))
def thinB (t : Th) : Bool := decide (t.whr.length ≤ 64) && diskB t.pool && allIn t.whr (-1) (t.pool.length - 1) && allK t.whr.length (thinOkAt t)
theorem thinOkAt_get {t : Th} {k : Nat} (hk : k < t.whr.length) : thinOkAt t k = (inB t.whr[k] (-1) (t.pool.length - 1) && !(decide (0 ≤ t.whr[k]) && decide (t.whr[k] ∈ t.whr.take k))) := by simp [thinOkAt, hk]
theorem thinB_true {t : Th} (h : thinB t = true) : t.whr.length ≤ 64 ∧ (t.pool.length ≤ 64 ∧ allIn t.pool 0 255 = true) ∧ allIn t.whr (-1) (t.pool.length - 1) = true ∧ ∀ k (hk : k < t.whr.length), 0 ≤ t.whr[k] → t.whr[k] ∉ t.whr.take k := by
  simp only [thinB, Bool.and_eq_true, decide_eq_true_eq] at h
  obtain ⟨⟨⟨h1, h2⟩, h3⟩, h4⟩ := h
  refine ⟨h1, diskB_true.1 h2, h3, fun k hk h0 => ?_⟩
  have := allK_iff.1 h4 k hk
  rw [thinOkAt_get hk] at this
  simp only [Bool.and_eq_true, Bool.not_eq_true', Bool.and_eq_false_iff, decide_eq_false_iff_not] at this
  rcases this.2 with h | h
  · exact absurd h0 h
  · exact h
/-- the lowest place that no sector has, or -1 -/
def freeFrom (w : List Int) (n : Nat) : Nat → Int
  | 0 => -1
  | f + 1 => if ((n - (f + 1) : Nat) : Int) ∈ w then freeFrom w n f else ((n - (f + 1) : Nat) : Int)
def freeB (t : Th) : Int := freeFrom t.whr t.pool.length t.pool.length
theorem freeFrom_spec (w : List Int) (n : Nat) : ∀ f, f ≤ n → (freeFrom w n f = -1 ∧ ∀ p : Nat, n - f ≤ p → p < n → (p : Int) ∈ w) ∨ (∃ p : Nat, freeFrom w n f = p ∧ n - f ≤ p ∧ p < n ∧ (p : Int) ∉ w ∧ ∀ q : Nat, n - f ≤ q → q < p → (q : Int) ∈ w) := by
  intro f
  induction f with
  | zero => intro _; left; exact ⟨rfl, fun p h1 h2 => by omega⟩
  | succ f ih =>
    intro hf
    unfold freeFrom
    by_cases hm : ((n - (f + 1) : Nat) : Int) ∈ w
    · rw [if_pos hm]
      rcases ih (by omega) with ⟨h1, h2⟩ | ⟨p, h1, h2, h3, h4, h5⟩
      · left
        refine ⟨h1, fun p hp hpn => ?_⟩
        by_cases he : p = n - (f + 1)
        · rw [he]; exact hm
        · exact h2 p (by omega) hpn
      · right
        refine ⟨p, h1, by omega, h3, h4, fun q hq hqp => ?_⟩
        by_cases he : q = n - (f + 1)
        · rw [he]; exact hm
        · exact h5 q (by omega) hqp
    · rw [if_neg hm]
      right
      exact ⟨n - (f + 1), rfl, Nat.le_refl _, by omega, hm, fun q h1 h2 => by omega⟩
theorem freeB_spec (t : Th) : (freeB t = -1 ∧ ∀ p : Nat, p < t.pool.length → (p : Int) ∈ t.whr) ∨ (∃ p : Nat, freeB t = p ∧ p < t.pool.length ∧ (p : Int) ∉ t.whr ∧ ∀ q : Nat, q < p → (q : Int) ∈ t.whr) := by
  rcases freeFrom_spec t.whr t.pool.length t.pool.length (Nat.le_refl _) with ⟨h1, h2⟩ | ⟨p, h1, _, h3, h4, h5⟩
  · exact .inl ⟨h1, fun p hp => h2 p (by omega) hp⟩
  · exact .inr ⟨p, h1, h3, h4, fun q hq => h5 q (by omega) hq⟩
theorem freeB_at {t : Th} {p : Nat} (hp : p < t.pool.length) (hn : (p : Int) ∉ t.whr) (hall : ∀ q : Nat, q < p → (q : Int) ∈ t.whr) : freeB t = p := by
  rcases freeB_spec t with ⟨_, h2⟩ | ⟨p', h1, h2, h3, h4⟩
  · exact absurd (h2 p hp) hn
  · rcases Nat.lt_trichotomy p p' with h | h | h
    · exact absurd (h4 p h) hn
    · rw [h1, h]
    · exact absurd (hall p' h) h3
theorem freeB_no {t : Th} (hall : ∀ q : Nat, q < t.pool.length → (q : Int) ∈ t.whr) : freeB t = -1 := by
  rcases freeB_spec t with ⟨h1, _⟩ | ⟨p', h1, h2, h3, h4⟩
  · exact h1
  · exact absurd (hall p' h2) h3
/-- where the sector's value goes: its place, or the lowest free one -/
def placeB (t : Th) (at_ : Int) : Int := if t.whr.getD at_.toNat 0 < 0 then freeB t else t.whr.getD at_.toNat 0
def thinArgs (t : Th) (at_ v : Int) : Bool := thinB t && inB at_ 0 (t.whr.length - 1) && inB v 0 255
def thinWriteB (t : Th) (at_ v : Int) : Th := if thinArgs t at_ v then (if placeB t at_ < 0 then t else ⟨t.whr.set at_.toNat (placeB t at_), t.pool.set (placeB t at_).toNat v⟩) else ⟨[], []⟩
def thinWriteOk (t : Th) (at_ v : Int) : Bool := thinArgs t at_ v && !decide (placeB t at_ < 0)
theorem thinWriteB_size (t : Th) (at_ v : Int) : sizeThin (thinWriteB t at_ v) ≤ sizeThin t + 1 := by
  unfold sizeThin thinWriteB; split
  · split <;> simp
  · simp
end Go.Proofs.Ytnnanknljpkdeaa
