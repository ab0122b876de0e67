/-
  Flash memories: the plain laws of many writes. No condition.
-/
import Derived.Test.YtnnanknljpkdeaaBase
import Derived.Test.YtnnanknljpkdeaaNum
import Derived.Test.YtnnanknljpkdeaaInts
import Derived.Test.YtnnanknljpkdeaaApp
import Derived.Test.YtnnanknljpkdeaaIntsW
import Derived.Test.YtnnanknljpkdeaaLib
import Derived.Test.YtnnanknljpkdeaaSpares
import Derived.Test.YtnnanknljpkdeaaOwn
import Derived.Test.YtnnanknljpkdeaaPage
import Derived.Test.YtnnanknljpkdeaaFlash
import Derived.Test.YtnnanknljpkdeaaFlashM
import Derived.Test.YtnnanknljpkdeaaFlashC
import Derived.Test.YtnnanknljpkdeaaFlashD
import Derived.Test.YtnnanknljpkdeaaFlashV
import Derived.Test.YtnnanknljpkdeaaThinC
import Derived.Test.YtnnanknljpkdeaaFlashW
import Derived.Test.YtnnanknljpkdeaaFlashX
import Derived.Test.YtnnanknljpkdeaaFlashY
import Derived.Test.YtnnanknljpkdeaaFlashZ
import Derived.Test.YtnnanknljpkdeaaFlashCB
import Derived.Test.YtnnanknljpkdeaaFlashWB
namespace Go.Proofs.Ytnnanknljpkdeaa
open Go.RowKit
def wearN (f : Fl) : Int := f.erases.sum
theorem sum_set {l : List Int} {b : Nat} (hb : b < l.length) (x : Int) : (l.set b x).sum = l.sum - l[b] + x := by
  induction l generalizing b with
  | nil => simp at hb
  | cons q r ih =>
    cases b with
    | zero => simp; omega
    | succ b => have := ih (b := b) (by simpa using hb); simp at this ⊢; omega
theorem sum_nonneg {l : List Int} (h : ∀ x ∈ l, 0 ≤ x) : 0 ≤ l.sum := by
  induction l with
  | nil => simp
  | cons q r ih => have := h q (by simp); have := ih (fun x hx => h x (by simp [hx])); simp; omega
theorem mem_le_sum {l : List Int} (h : ∀ x ∈ l, 0 ≤ x) {x : Int} (hx : x ∈ l) : x ≤ l.sum := by
  induction l with
  | nil => simp at hx
  | cons q r ih =>
    have hq := h q (by simp)
    have hr := sum_nonneg (fun x hx => h x (List.mem_cons_of_mem _ hx) : ∀ x ∈ r, 0 ≤ x)
    rcases List.mem_cons.1 hx with rfl | hx
    · simp; omega
    · have := ih (fun x hx => h x (by simp [hx])) hx; simp; omega
theorem staleAt_four (l : List Pg) (b : Nat) : staleAt l b ≤ 4 := by
  unfold staleAt staleN
  have h1 := List.countP_le_length (p := fun p : Pg => p.own == -2) (l := blockOf l b)
  have h2 : (blockOf l b).length ≤ 4 := by unfold blockOf; rw [List.length_take]; omega
  omega
/-- one write: at most one block is erased, and how many pages are free then -/
theorem write_count {f : Fl} (h : FlashOk f) (x v : Int) (hx : 0 ≤ x) :
    (0 < freeN f.pages ∧ wearN (writeF f x v) = wearN f ∧ freeN (writeF f x v).pages + 1 = freeN f.pages) ∨
    (freeN f.pages = 0 ∧ wearN (writeF f x v) = wearN f + 1 ∧ freeN (writeF f x v).pages + 1 ≤ 4) := by
  obtain ⟨r1, r2, r3⟩ := roomF_live h
  have hr := h.room
  obtain ⟨d1, d2, d3, _⟩ := dropL_spec (roomF f).pages x hx (h.one.perm r1.symm)
  obtain ⟨_, p2, _⟩ := put1_spec (l := dropL (roomF f).pages x) (p := ⟨x, v⟩) (by omega) hx
  have e1 : freeN (writeF f x v).pages + 1 = freeN (roomF f).pages := by simp only [writeF]; omega
  have e2 : wearN (writeF f x v) = wearN (roomF f) := rfl
  rw [e2]
  by_cases hf : freeIx f.pages < 0
  · right
    have h0 := freeIx_none hf
    have e3 : roomF f = collectF f := by unfold roomF; rw [if_pos hf]
    rw [e3] at e1 hr ⊢
    have hsp := (collectP_spec h.best (fun p hp => (h.own p hp).1)).2.1
    have hle := staleAt_four f.pages (bestB f)
    by_cases hc : collectOk f = true
    · have e4 : collectF f = ⟨collectP f.pages (bestB f), f.erases.set (bestB f) (f.erases.getD (bestB f) 0 + 1)⟩ := by unfold collectF; rw [if_pos hc]
      rw [e4] at e1 ⊢
      have hb : bestB f < f.erases.length := by have := h.best; have := h.len; omega
      refine ⟨h0, ?_, ?_⟩
      · simp only [wearN, sum_set hb]
        simp [hb]
        omega
      · simp only at e1; omega
    · exfalso
      have e4 : collectF f = f := by unfold collectF; rw [if_neg hc]
      rw [e4] at hr; omega
  · left
    have h0 := freeIx_some hf
    have e3 : roomF f = f := by unfold roomF; rw [if_neg hf]
    rw [e3] at e1 ⊢
    exact ⟨h0, rfl, e1⟩
/-- page 2 is written k times -/
def manyF (f : Fl) : Nat → Fl
  | 0 => f
  | k + 1 => writeB (manyF f k) 2 (k : Int)
structure Many (P n k : Nat) (f : Fl) : Prop where
  ok : FlashOk f
  pages : f.pages.length = P
  ers : f.erases.length = n
  wear0 : 0 ≤ wearN f
  wearK : wearN f ≤ k
  cnt : (freeN f.pages : Int) + k ≤ P + 4 * wearN f
  few : wearN f = 0 → freeN f.pages + k = P
  many : 0 < wearN f → P < k
  val : 0 < k → valOf f.pages 2 = (k : Int) - 1
theorem many_next {P n k : Nat} {f : Fl} (h : Many P n k f) (hk : k ≤ 200) : Many P n (k + 1) (writeB f 2 (k : Int)) ∧ writeArgs f 2 (k : Int) = true := by
  have h2 := h.ok.n2
  have hx : inB 2 0 (((f.erases.length : Int) - 1) * 4 - 1) = true := inB_true.2 (by omega)
  have hv : inB (k : Int) 0 255 = true := inB_true.2 (by omega)
  have ha := writeArgs_yes (flashB_iff.2 h.ok) hx hv
  have e : writeB f 2 (k : Int) = writeF f 2 (k : Int) := by unfold writeB; rw [ha]; rfl
  refine ⟨?_, ha⟩
  rw [e]
  have hs := writeF_spec h.ok 2 (k : Int) (by omega)
  have hers : ∀ x ∈ f.erases, x ≤ 999999 := fun x hx => by
    have h1 := mem_le_sum (fun y hy => (h.ok.ers y hy).1) hx
    have h3 := h.wearK
    unfold wearN at h3
    omega
  have hval := writeF_val h.ok 2 (k : Int) (by omega) (k := 2) (by omega)
  have hc := h.cnt
  have hf := h.few
  have hm := h.many
  have h0 := h.wear0
  have hwk := h.wearK
  rcases write_count h.ok 2 (k : Int) (by omega) with ⟨c1, c2, c3⟩ | ⟨c1, c2, c3⟩
  · refine ⟨h.ok.write_ok hers hx hv, by rw [hs.2.1, h.pages], by rw [hs.2.2, h.ers], by omega, by omega, by omega, fun hw => ?_, fun hw => ?_, fun _ => ?_⟩
    · have := hf (by omega); omega
    · have := hm (by omega); omega
    · rw [hval]; simp
  · refine ⟨h.ok.write_ok hers hx hv, by rw [hs.2.1, h.pages], by rw [hs.2.2, h.ers], by omega, by omega, by omega, fun hw => by omega, fun hw => ?_, fun _ => ?_⟩
    · by_cases hw0 : wearN f = 0
      · have := hf hw0; omega
      · have := hm (by omega); omega
    · rw [hval]; simp
theorem many_all {P n : Nat} {f : Fl} (h : Many P n 0 f) (k : Nat) (hk : k ≤ 200) : Many P n k (manyF f k) := by
  induction k with
  | zero => exact h
  | succ k ih => exact (many_next (ih (by omega)) (by omega)).1
end Go.Proofs.Ytnnanknljpkdeaa
