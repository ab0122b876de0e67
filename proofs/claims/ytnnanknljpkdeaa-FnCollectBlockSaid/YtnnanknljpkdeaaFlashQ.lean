/-
  Flash memories: the plain laws of validity, views, wear, collecting, writing. No condition.
-/
import Derived.Test.YtnnanknljpkdeaaBase
import Derived.Test.YtnnanknljpkdeaaNum
import Derived.Test.YtnnanknljpkdeaaInts
import Derived.Test.YtnnanknljpkdeaaApp
import Derived.Test.YtnnanknljpkdeaaIntsW
import Derived.Test.YtnnanknljpkdeaaLib
import Derived.Test.YtnnanknljpkdeaaSpares
import Derived.Test.YtnnanknljpkdeaaOwn
import Derived.Test.YtnnanknljpkdeaaPage
import Derived.Test.YtnnanknljpkdeaaFlash
import Derived.Test.YtnnanknljpkdeaaFlashM
import Derived.Test.YtnnanknljpkdeaaFlashC
import Derived.Test.YtnnanknljpkdeaaFlashD
import Derived.Test.YtnnanknljpkdeaaFlashV
import Derived.Test.YtnnanknljpkdeaaThinC
import Derived.Test.YtnnanknljpkdeaaFlashW
import Derived.Test.YtnnanknljpkdeaaFlashX
import Derived.Test.YtnnanknljpkdeaaFlashY
import Derived.Test.YtnnanknljpkdeaaFlashZ
import Derived.Test.YtnnanknljpkdeaaFlashCB
import Derived.Test.YtnnanknljpkdeaaFlashWB
import Derived.Test.YtnnanknljpkdeaaFlashP
namespace Go.Proofs.Ytnnanknljpkdeaa
open Go.RowKit
theorem dup_bad {l : List Pg} {e : List Int} (h2 : 1 < l.length) (h0 : l[0].own = 1) (h1 : l[1].own = 1) : flashB ⟨l, e⟩ = false := by
  have hm : (1 : Int) ∈ (l.take 1).map Pg.own := by
    rw [List.mem_map]
    exact ⟨l[0], List.mem_take_iff_getElem.2 ⟨0, by omega, rfl⟩, h0⟩
  refine flash_no4 (k := 1) h2 ?_
  rw [flashOkAt_get (f := ⟨l, e⟩) h2 rfl]
  simp [h1]
  intro _ _
  simpa using hm
theorem tail_bad {f : Fl} (h : FlashOk f) : flashB ⟨f.pages.drop 1, f.erases⟩ = false := by
  have := h.len
  have := h.n2
  refine flash_no2 ?_
  simp only [List.length_drop, decide_eq_false_iff_not]
  omega
def foundTo (l : List Pg) (k v : Int) (j : Nat) : Bool := v == 0 || (l.take j).any (fun p => p.own == k && p.val == v)
theorem foundTo_zero (l : List Pg) (k v : Int) : foundTo l k v 0 = (v == 0) := by simp [foundTo]
theorem foundTo_succ {l : List Pg} {j : Nat} (hj : j < l.length) (k v : Int) : foundTo l k v (j + 1) = (foundTo l k v j || (l[j].own == k && l[j].val == v)) := by
  unfold foundTo
  rw [List.take_succ_eq_append_getElem hj, List.any_append, Bool.or_assoc]
  simp
theorem foundTo_all {l : List Pg} (h : LiveOk l) {k : Int} (hk : 0 ≤ k) : foundTo l k (valOf l k) l.length = true := by
  rcases (valOf_iff h hk).1 rfl with ⟨p, hp, h1, h2⟩ | ⟨h1, _⟩
  · unfold foundTo
    rw [List.take_length, Bool.or_eq_true]
    right
    rw [List.any_eq_true]
    exact ⟨p, hp, by simp [h1, h2]⟩
  · simp [foundTo, h1]
theorem foldl_max_spec (l : List Int) : ∀ a : Int, (a ≤ l.foldl max a ∧ ∀ x ∈ l, x ≤ l.foldl max a) ∧ (l.foldl max a = a ∨ l.foldl max a ∈ l) := by
  induction l with
  | nil => intro a; simp
  | cons q r ih =>
    intro a
    obtain ⟨⟨h1, h2⟩, h3⟩ := ih (max a q)
    simp only [List.foldl_cons, List.mem_cons]
    refine ⟨⟨by omega, fun x hx => ?_⟩, ?_⟩
    · rcases hx with rfl | hx
      · omega
      · exact h2 x hx
    · rcases h3 with h3 | h3
      · by_cases hq : a ≤ q
        · right; left; omega
        · left; omega
      · exact .inr (.inr h3)
theorem foldl_min_spec (l : List Int) : ∀ a : Int, (l.foldl min a ≤ a ∧ ∀ x ∈ l, l.foldl min a ≤ x) ∧ (l.foldl min a = a ∨ l.foldl min a ∈ l) := by
  induction l with
  | nil => intro a; simp
  | cons q r ih =>
    intro a
    obtain ⟨⟨h1, h2⟩, h3⟩ := ih (min a q)
    simp only [List.foldl_cons, List.mem_cons]
    refine ⟨⟨by omega, fun x hx => ?_⟩, ?_⟩
    · rcases hx with rfl | hx
      · omega
      · exact h2 x hx
    · rcases h3 with h3 | h3
      · by_cases hq : q ≤ a
        · right; left; omega
        · left; omega
      · exact .inr (.inr h3)
theorem maxL_spec {l : List Int} (h : 0 < l.length) : (∃ (a : Nat) (ha : a < l.length), l[a] = maxL l) ∧ ∀ i (hi : i < l.length), l[i] ≤ maxL l := by
  have hg : l.getD 0 0 = l[0] := by simp [h]
  obtain ⟨⟨h1, h2⟩, h3⟩ := foldl_max_spec l (l.getD 0 0)
  refine ⟨?_, fun i hi => h2 _ (List.getElem_mem hi)⟩
  rcases h3 with h3 | h3
  · exact ⟨0, h, by rw [← hg, ← h3]; rfl⟩
  · exact List.getElem_of_mem h3
theorem minL_spec {l : List Int} (h : 0 < l.length) : (∃ (a : Nat) (ha : a < l.length), l[a] = minL l) ∧ ∀ i (hi : i < l.length), minL l ≤ l[i] := by
  have hg : l.getD 0 0 = l[0] := by simp [h]
  obtain ⟨⟨h1, h2⟩, h3⟩ := foldl_min_spec l (l.getD 0 0)
  refine ⟨?_, fun i hi => h2 _ (List.getElem_mem hi)⟩
  rcases h3 with h3 | h3
  · exact ⟨0, h, by rw [← hg, ← h3]; rfl⟩
  · exact List.getElem_of_mem h3
theorem spread_spec {l : List Int} (h : 0 < l.length) : (∃ (a b : Nat) (ha : a < l.length) (hb : b < l.length), l[a] - l[b] = maxL l - minL l) ∧ ∀ i j (hi : i < l.length) (hj : j < l.length), l[i] - l[j] ≤ maxL l - minL l := by
  obtain ⟨⟨a, ha, e1⟩, h1⟩ := maxL_spec h
  obtain ⟨⟨b, hb, e2⟩, h2⟩ := minL_spec h
  exact ⟨⟨a, b, ha, hb, by rw [e1, e2]⟩, fun i j hi hj => by have := h1 i hi; have := h2 j hj; omega⟩
def sumTo (l : List Int) (k : Nat) : Int := (l.take k).sum
theorem sumTo_zero (l : List Int) : sumTo l 0 = 0 := by simp [sumTo]
theorem sumTo_succ {l : List Int} {k : Nat} (hk : k < l.length) : sumTo l (k + 1) = sumTo l k + l[k] := by
  unfold sumTo; rw [List.take_succ_eq_append_getElem hk, List.sum_append]; simp
theorem sumTo_all {l : List Int} {k : Nat} (hk : l.length ≤ k) : sumTo l k = l.sum := by unfold sumTo; rw [List.take_of_length_le hk]
theorem sumTo_in {l : List Int} {hi : Int} (h : ∀ x ∈ l, 0 ≤ x ∧ x ≤ hi) : ∀ k : Nat, k ≤ l.length → 0 ≤ sumTo l k ∧ sumTo l k ≤ hi * k := by
  intro k
  induction k with
  | zero => intro _; simp [sumTo]
  | succ k ih =>
    intro hk
    have i := ih (by omega)
    have := h _ (List.getElem_mem (show k < l.length by omega))
    rw [sumTo_succ (by omega)]
    refine ⟨by omega, ?_⟩
    have e : hi * ((k + 1 : Nat) : Int) = hi * k + hi := by rw [Int.natCast_add, Int.mul_add]; simp
    rw [e]; omega
theorem staleTo_succ {l : List Pg} {j : Nat} (hj : j < l.length) : staleN (l.take (j + 1)) = staleN (l.take j) + (if l[j].own = -2 then 1 else 0) := staleN_take hj
theorem freeTo_succ {l : List Pg} {j : Nat} (hj : j < l.length) : freeN (l.take (j + 1)) = freeN (l.take j) + (if l[j].own = -1 then 1 else 0) := by
  unfold freeN; rw [List.take_succ_eq_append_getElem hj, List.countP_append]; simp [List.countP_cons]
theorem freeN_le (l : List Pg) : freeN l ≤ l.length := List.countP_le_length
/-- what collecting does -/
structure Collected (f x : Fl) : Prop where
  len : x.pages.length = f.pages.length
  ers : x.erases.length = f.erases.length
  free : (freeN x.pages : Int) - freeN f.pages = staleN f.pages - staleN x.pages
  yes : collectOk f = true → wearN x = wearN f + 1 ∧ freeN f.pages < freeN x.pages
  no : collectOk f = false → x = f
theorem collect_facts {f : Fl} (h : FlashOk f) : Collected f (collectF f) := by
  have hsp := collectP_spec h.best (fun p hp => (h.own p hp).1)
  by_cases hc : collectOk f = true
  · have e4 : collectF f = ⟨collectP f.pages (bestB f), f.erases.set (bestB f) (f.erases.getD (bestB f) 0 + 1)⟩ := by unfold collectF; rw [if_pos hc]
    have hs : 0 < staleAt f.pages (bestB f) := by
      unfold collectOk at hc
      simp only [decide_eq_true_eq] at hc
      omega
    have hb : bestB f < f.erases.length := by have := h.best; have := h.len; omega
    rw [e4]
    refine ⟨hsp.2.2.2, by simp, by simp only; omega, fun _ => ⟨?_, by simp only; omega⟩, fun hn => by rw [hc] at hn; cases hn⟩
    simp only [wearN, sum_set hb]
    simp [hb]
    omega
  · have e4 : collectF f = f := by unfold collectF; rw [if_neg hc]
    rw [e4]
    exact ⟨rfl, rfl, by omega, fun h2 => absurd h2 hc, fun _ => rfl⟩
theorem collect_view {f : Fl} (h : FlashOk f) (he : ∀ x ∈ f.erases, x ≤ 999999) : viewF (collectF f) = viewF f := by
  have hok := h.collect_ok he
  rw [viewF_yes (flashB_iff.2 hok), viewF_yes (flashB_iff.2 h), collectF_ers]
  have hsp := collectP_spec h.best (fun p hp => (h.own p hp).1)
  by_cases hc : collectOk f = true
  · have e4 : collectF f = ⟨collectP f.pages (bestB f), f.erases.set (bestB f) (f.erases.getD (bestB f) 0 + 1)⟩ := by unfold collectF; rw [if_pos hc]
    rw [e4] at hok ⊢
    exact viewL_perm hok.one hsp.1 _
  · have e4 : collectF f = f := by unfold collectF; rw [if_neg hc]
    rw [e4]
/-- the law's words of a write -/
structure Written (f x : Fl) (n v : Int) : Prop where
  ok : flashB x = true
  view : viewF x = (viewF f).set n.toNat v
  wear : 0 ≤ wearN x - wearN f ∧ wearN x - wearN f ≤ 1
  ers : x.erases.length = f.erases.length
  big : ∀ y ∈ x.erases, 0 ≤ y ∧ y ≤ 1000000
theorem write_facts {f : Fl} {n v : Int} (ha : writeArgs f n v = true) (he : ∀ x ∈ f.erases, x ≤ 999999) : flashB f = true ∧ (0 ≤ n ∧ n < (viewF f).length) ∧ (0 ≤ v ∧ v ≤ 255) ∧ Written f (writeB f n v) n v := by
  have ha' := ha
  unfold writeArgs at ha'
  simp only [Bool.and_eq_true] at ha'
  obtain ⟨⟨h1, h2⟩, h3⟩ := ha'
  have ok := flashB_iff.1 h1
  obtain ⟨n0, n1⟩ := inB_true.1 h2
  have e : writeB f n v = writeF f n v := by unfold writeB; rw [ha]; rfl
  rw [e]
  have hw := ok.write_ok he h2 h3
  have hs := writeF_spec ok n v n0
  have n2 := ok.n2
  refine ⟨h1, ⟨n0, ?_⟩, inB_true.1 h3, flashB_iff.2 hw, ?_, ?_, hs.2.2, hw.ers⟩
  · rw [viewF_yes h1, viewL_length]; omega
  · rw [viewF_yes (flashB_iff.2 hw), viewF_yes h1, hs.2.2]
    exact writeF_view ok n v n0 _
  · rcases write_count ok n v n0 with ⟨_, h, _⟩ | ⟨_, h, _⟩ <;> omega
theorem viewF_disk {f : Fl} (h : flashB f = true) : diskB (viewF f) = true := by
  have ok := flashB_iff.1 h
  have := ok.n6
  rw [viewF_yes h, diskB_true]
  refine ⟨by rw [viewL_length]; omega, ?_⟩
  rw [allIn, List.all_eq_true]
  intro x hx
  obtain ⟨k, hk, rfl⟩ := List.getElem_of_mem hx
  rw [viewL_get]
  exact inB_true.2 (valOf_range ok (by omega))
end Go.Proofs.Ytnnanknljpkdeaa
