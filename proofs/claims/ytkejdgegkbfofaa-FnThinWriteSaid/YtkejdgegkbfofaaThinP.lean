/-
  Thin volumes: the plain laws. No condition.
-/
import Derived.Test.YtkejdgegkbfofaaBase
import Derived.Test.YtkejdgegkbfofaaNum
import Derived.Test.YtkejdgegkbfofaaInts
import Derived.Test.YtkejdgegkbfofaaApp
import Derived.Test.YtkejdgegkbfofaaIntsW
import Derived.Test.YtkejdgegkbfofaaLib
import Derived.Test.YtkejdgegkbfofaaSpares
import Derived.Test.YtkejdgegkbfofaaOwn
import Derived.Test.YtkejdgegkbfofaaThin
import Derived.Test.YtkejdgegkbfofaaThinM
import Derived.Test.YtkejdgegkbfofaaThinC
import Derived.Test.YtkejdgegkbfofaaThinX
namespace Go.Proofs.Ytkejdgegkbfofaa
open Go.RowKit
def seeT (pool : List Int) (p : Int) : Int := if 0 ≤ p then pool.getD p.toNat 0 else 0
def viewT (t : Th) : List Int := t.whr.map (seeT t.pool)
def thinV (t : Th) : List Int := if thinB t then viewT t else []
def usedT (l : List Int) : Nat := l.countP fun p => decide (0 ≤ p)
def freeTh (t : Th) : Int := if thinB t then t.pool.length - usedT t.whr else -1
def trimS (t : Th) (a : Nat) : Th := ⟨t.whr.set a (-1), if 0 ≤ t.whr.getD a (-1) then t.pool.set (t.whr.getD a (-1)).toNat 0 else t.pool⟩
def trimOk (t : Th) (a : Int) : Bool := thinB t && inB a 0 (t.whr.length - 1)
def trimT (t : Th) (a : Int) : Th := if trimOk t a then trimS t a.toNat else ⟨[], []⟩
/-- the plain meaning of a valid thin volume -/
structure TV (t : Th) : Prop where
  w64 : t.whr.length ≤ 64
  p64 : t.pool.length ≤ 64
  pv : ∀ x ∈ t.pool, 0 ≤ x ∧ x ≤ 255
  rng : ∀ x ∈ t.whr, -1 ≤ x ∧ x < t.pool.length
  inj : ∀ i j (hi : i < t.whr.length) (hj : j < t.whr.length), t.whr[i] = t.whr[j] → 0 ≤ t.whr[i] → i = j
theorem thin_iff {t : Th} : thinB t = true ↔ TV t := by
  constructor
  · intro h
    obtain ⟨h1, ⟨h2, h3⟩, h4, h5⟩ := thinB_true h
    refine ⟨h1, h2, fun x hx => allIn_mem h3 hx, fun x hx => ?_, ?_⟩
    · have := allIn_mem h4 hx; omega
    · have key : ∀ i j (hi : i < t.whr.length) (hj : j < t.whr.length), t.whr[i] = t.whr[j] → 0 ≤ t.whr[i] → ¬ i < j := by
        intro i j hi hj he h0 hij
        exact h5 j hj (by omega) (List.mem_take_iff_getElem.2 ⟨i, by omega, he⟩)
      intro i j hi hj he h0
      rcases Nat.lt_trichotomy i j with h | h | h
      · exact absurd h (key i j hi hj he h0)
      · exact h
      · exact absurd h (key j i hj hi he.symm (by omega))
  · intro h
    refine thin_yes h.w64 (diskB_true.2 ⟨h.p64, ?_⟩) ?_ ?_
    · rw [allIn, List.all_eq_true]; exact fun x hx => inB_true.2 (h.pv x hx)
    · rw [allIn, List.all_eq_true]; exact fun x hx => inB_true.2 (by have := h.rng x hx; omega)
    · rw [allK_iff]
      intro k hk
      rw [thinOkAt_get hk]
      have hr := h.rng _ (List.getElem_mem hk)
      have h1 : inB t.whr[k] (-1) (t.pool.length - 1) = true := inB_true.2 (by omega)
      rw [h1]
      simp only [Bool.true_and, Bool.not_eq_true', Bool.and_eq_false_iff, decide_eq_false_iff_not]
      by_cases h0 : 0 ≤ t.whr[k]
      · right
        intro hm
        obtain ⟨j, hj, he⟩ := List.mem_take_iff_getElem.1 hm
        have := h.inj j k (by omega) hk he (by omega)
        omega
      · exact .inl h0
theorem seeT_neg {p : List Int} {x : Int} (h : x < 0) : seeT p x = 0 := by unfold seeT; rw [if_neg (by omega)]
theorem seeT_pos {p : List Int} {k : Nat} (h : k < p.length) : seeT p (k : Int) = p[k] := by unfold seeT; simp [h]
theorem viewT_len (t : Th) : (viewT t).length = t.whr.length := by simp [viewT]
theorem viewT_get {t : Th} {k : Nat} (hk : k < t.whr.length) (h : k < (viewT t).length) : (viewT t)[k] = seeT t.pool t.whr[k] := by simp [viewT]
theorem seeT_in {t : Th} (h : TV t) (x : Int) (hx : x < t.pool.length) : 0 ≤ seeT t.pool x ∧ seeT t.pool x ≤ 255 := by
  unfold seeT
  split
  · have hl : x.toNat < t.pool.length := by omega
    have := h.pv _ (List.getElem_mem hl)
    simpa [hl] using this
  · omega
theorem viewT_disk {t : Th} (h : TV t) : diskB (viewT t) = true := by
  rw [diskB_true, viewT_len, allIn, List.all_eq_true]
  refine ⟨h.w64, fun x hx => ?_⟩
  obtain ⟨p, hp, rfl⟩ := List.mem_map.1 hx
  exact inB_true.2 (seeT_in h p (h.rng p hp).2)
/-- a sector gets a place with a value -/
theorem put_tv {t : Th} (h : TV t) {a p : Nat} {v : Int} (_ha : a < t.whr.length) (hp : p < t.pool.length) (hv : 0 ≤ v ∧ v ≤ 255) (hn : ∀ j (hj : j < t.whr.length), j ≠ a → t.whr[j] ≠ p) :
    TV ⟨t.whr.set a p, t.pool.set p v⟩ ∧ viewT ⟨t.whr.set a p, t.pool.set p v⟩ = (viewT t).set a v := by
  refine ⟨⟨by simpa using h.w64, by simpa using h.p64, fun x hx => ?_, fun x hx => ?_, fun i j hi hj he h0 => ?_⟩, ?_⟩
  · rcases List.mem_or_eq_of_mem_set hx with h1 | h1
    · exact h.pv x h1
    · rw [h1]; exact hv
  · simp only [List.length_set]
    rcases List.mem_or_eq_of_mem_set hx with h1 | h1
    · exact h.rng x h1
    · rw [h1]; omega
  · simp only [List.length_set] at hi hj
    simp only [List.getElem_set] at he h0
    by_cases hi' : a = i
    · subst hi'
      by_cases hj' : a = j
      · exact hj'
      · rw [if_pos rfl, if_neg hj'] at he
        exact absurd he.symm (hn j hj (by omega))
    · by_cases hj' : a = j
      · subst hj'
        rw [if_neg hi', if_pos rfl] at he
        exact absurd he (hn i hi (by omega))
      · rw [if_neg hi', if_neg hj'] at he
        rw [if_neg hi'] at h0
        exact h.inj i j hi hj he h0
  · apply List.ext_getElem
    · simp [viewT]
    · intro k h1 h2
      simp only [viewT_len, List.length_set] at h1 h2
      rw [viewT_get (by simpa using h1), List.getElem_set]
      simp only [List.getElem_set]
      by_cases hk : a = k
      · subst hk
        rw [if_pos rfl, if_pos rfl, seeT_pos (by simpa using hp)]
        simp
      · rw [if_neg hk, if_neg hk, viewT_get h1]
        unfold seeT
        split
        · rename_i h0
          have hne : p ≠ (t.whr[k]).toNat := by
            have := hn k h1 (by omega)
            omega
          simp [List.getElem?_set_ne hne]
        · rfl
theorem used_set {l : List Int} {a : Nat} (ha : a < l.length) (x : Int) : usedT (l.set a x) + (if 0 ≤ l[a] then 1 else 0) = usedT l + (if 0 ≤ x then 1 else 0) := by
  unfold usedT
  have e : l = l.take a ++ l[a] :: l.drop (a + 1) := by rw [List.getElem_cons_drop, List.take_append_drop]
  have e2 : l.set a x = l.take a ++ x :: l.drop (a + 1) := by rw [List.set_eq_take_append_cons_drop, if_pos ha]
  rw [e2]
  conv => rhs; rw [e]
  simp only [List.countP_append, List.countP_cons, decide_eq_true_eq]
  omega
theorem trim_tv {t : Th} (h : TV t) {a : Nat} (ha : a < t.whr.length) :
    TV (trimS t a) ∧ viewT (trimS t a) = (viewT t).set a 0 ∧ usedT (trimS t a).whr + (if 0 ≤ t.whr[a] then 1 else 0) = usedT t.whr ∧ (trimS t a).pool.length = t.pool.length ∧ (trimS t a).whr.length = t.whr.length ∧ trimS (trimS t a) a = trimS t a := by
  have hg : t.whr.getD a (-1) = t.whr[a] := by simp [ha]
  have hpl : (trimS t a).pool.length = t.pool.length := by unfold trimS; simp only; split <;> simp
  have hr := h.rng _ (List.getElem_mem ha)
  refine ⟨⟨by simpa [trimS] using h.w64, by rw [hpl]; exact h.p64, fun x hx => ?_, fun x hx => ?_, fun i j hi hj he h0 => ?_⟩, ?_, ?_, hpl, by simp [trimS], ?_⟩
  · unfold trimS at hx
    simp only at hx
    split at hx
    · rcases List.mem_or_eq_of_mem_set hx with h1 | h1
      · exact h.pv x h1
      · rw [h1]; omega
    · exact h.pv x hx
  · rw [hpl]
    rcases List.mem_or_eq_of_mem_set (show x ∈ t.whr.set a (-1) from hx) with h1 | h1
    · exact h.rng x h1
    · rw [h1]; omega
  · simp only [trimS, List.length_set] at hi hj
    simp only [trimS, List.getElem_set] at he h0
    by_cases hi' : a = i
    · rw [if_pos hi'] at h0; omega
    · by_cases hj' : a = j
      · rw [if_neg hi', if_pos hj'] at he; rw [if_neg hi'] at h0; omega
      · rw [if_neg hi', if_neg hj'] at he
        rw [if_neg hi'] at h0
        exact h.inj i j hi hj he h0
  · apply List.ext_getElem
    · simp [viewT, trimS]
    · intro k h1 h2
      have h1' : k < t.whr.length := by simpa [viewT, trimS] using h1
      have hpool : (trimS t a).pool = if 0 ≤ t.whr[a] then t.pool.set (t.whr[a]).toNat 0 else t.pool := by rw [← hg]; rfl
      have hwk : (trimS t a).whr[k]'(by simpa [trimS] using h1') = if a = k then -1 else t.whr[k] := by simp [trimS, List.getElem_set]
      rw [viewT_get (by simpa [trimS] using h1'), List.getElem_set, hwk, hpool]
      by_cases hk : a = k
      · subst hk
        rw [if_pos rfl, if_pos rfl, seeT_neg (by omega)]
      · rw [if_neg hk, if_neg hk, viewT_get h1']
        split
        · rename_i h0
          unfold seeT
          split
          · rename_i h3
            have hne : (t.whr[a]).toNat ≠ (t.whr[k]).toNat := by
              intro he
              exact hk (h.inj a k ha h1' (by omega) h0)
            simp [List.getElem?_set_ne hne]
          · rfl
        · rfl
  · have := used_set ha (-1)
    simp only [trimS] at this ⊢
    simpa using this
  · have e : trimS t a = ⟨t.whr.set a (-1), (trimS t a).pool⟩ := rfl
    have e2 : ((t.whr.set a (-1)).getD a (-1)) = -1 := by simp [ha]
    conv => lhs; rw [e]; unfold trimS
    simp only [e2, List.set_set]
    rfl
/-- every place has a sector: none is free -/
theorem used_full {t : Th} (h : TV t) (hall : ∀ p : Nat, p < t.pool.length → (p : Int) ∈ t.whr) : usedT t.whr = t.pool.length := by
  have e : usedT t.whr = (t.whr.filter fun p => decide (0 ≤ p)).length := by unfold usedT; rw [List.countP_eq_length_filter]
  rw [e]
  have hnod : (t.whr.filter fun p => decide (0 ≤ p)).Nodup := by
    rw [List.nodup_iff_pairwise_ne, List.pairwise_filter, List.pairwise_iff_getElem]
    intro i j hi hj hij h0 _ he
    have := h.inj i j hi hj he (by simpa using h0)
    omega
  have hperm : (t.whr.filter fun p => decide (0 ≤ p)).Perm ((List.range t.pool.length).map fun p : Nat => (p : Int)) := by
    rw [List.perm_ext_iff_of_nodup hnod]
    · intro x
      simp only [List.mem_filter, List.mem_map, List.mem_range, decide_eq_true_eq]
      constructor
      · rintro ⟨hx, h0⟩
        have := h.rng x hx
        exact ⟨x.toNat, by omega, by omega⟩
      · rintro ⟨p, hp, rfl⟩
        exact ⟨hall p hp, by omega⟩
    · rw [List.nodup_iff_pairwise_ne, List.pairwise_map]
      refine List.Pairwise.imp ?_ (List.nodup_iff_pairwise_ne.1 List.nodup_range)
      intro a b hab he
      exact hab (by omega)
  rw [hperm.length_eq]
  simp
/-- the law's words of a write -/
theorem thinW_facts {t : Th} {a v : Int} (hargs : thinArgs t a v = true) :
    thinB t = true ∧ (∃ k : Nat, a = k ∧ k < t.whr.length) ∧ (0 ≤ v ∧ v ≤ 255) ∧
    ((thinWriteOk t a v = false ∧ thinWriteB t a v = t ∧ freeTh t = 0 ∧ t.whr.getD a.toNat 0 < 0) ∨
     (thinWriteOk t a v = true ∧ thinB (thinWriteB t a v) = true ∧ (thinWriteB t a v).whr.length = t.whr.length ∧ viewT (thinWriteB t a v) = (viewT t).set a.toNat v ∧ freeTh (thinWriteB t a v) ≤ freeTh t ∧ freeTh t - 1 ≤ freeTh (thinWriteB t a v))) := by
  have hargs' := hargs
  unfold thinArgs at hargs'
  simp only [Bool.and_eq_true] at hargs'
  obtain ⟨⟨hb, h2⟩, h3⟩ := hargs'
  have h := thin_iff.1 hb
  obtain ⟨a0, a1⟩ := inB_true.1 h2
  obtain ⟨k, rfl⟩ := Int.eq_ofNat_of_zero_le a0
  have hk : k < t.whr.length := by omega
  refine ⟨hb, ⟨k, rfl, hk⟩, inB_true.1 h3, ?_⟩
  have hr := h.rng _ (List.getElem_mem hk)
  have key : ∀ p : Nat, placeB t (k : Int) = p → p < t.pool.length → (∀ j (hj : j < t.whr.length), j ≠ k → t.whr[j] ≠ p) → (thinWriteOk t k v = true ∧ thinB (thinWriteB t k v) = true ∧ (thinWriteB t k v).whr.length = t.whr.length ∧ viewT (thinWriteB t k v) = (viewT t).set (k : Int).toNat v ∧ freeTh (thinWriteB t k v) ≤ freeTh t ∧ freeTh t - 1 ≤ freeTh (thinWriteB t k v)) := by
    intro p hp hpl hn
    obtain ⟨e1, e2⟩ := thinWrite_to hargs hp
    obtain ⟨q1, q2⟩ := put_tv h hk hpl (inB_true.1 h3) hn
    have hu := used_set hk (p : Int)
    rw [if_pos (show (0 : Int) ≤ (p : Int) by omega)] at hu
    rw [e1]
    refine ⟨e2, thin_iff.2 q1, by simp, by simpa using q2, ?_, ?_⟩
    · unfold freeTh
      rw [thin_iff.2 q1, hb]
      simp only [if_true, List.length_set]
      split at hu <;> omega
    · unfold freeTh
      rw [thin_iff.2 q1, hb]
      simp only [if_true, List.length_set]
      split at hu <;> omega
  by_cases hneg : t.whr[k] < 0
  · have hpl := placeB_neg hk hneg
    rcases freeB_spec t with ⟨e, hall⟩ | ⟨p, e, hp, hn, _⟩
    · left
      obtain ⟨e1, e2⟩ := thinWrite_full hargs (by rw [hpl, e]; omega)
      refine ⟨e2, e1, ?_, by simpa [hk] using hneg⟩
      unfold freeTh
      rw [hb, used_full h hall]
      simp
    · right
      exact key p (by rw [hpl, e]) hp (fun j hj _ he => hn (by rw [← he]; exact List.getElem_mem hj))
  · right
    obtain ⟨p, hp⟩ := Int.eq_ofNat_of_zero_le (show 0 ≤ t.whr[k] by omega)
    refine key p (by rw [placeB_pos hk hneg, hp]) (by omega) (fun j hj hjk he => ?_)
    exact hjk (h.inj j k hj hk (by omega) (by omega))
theorem thinW_no {t : Th} {a v : Int} (h : thinArgs t a v = false) : thinWriteOk t a v = false ∧ thinWriteB t a v = ⟨[], []⟩ := ⟨(thinWrite_no h).2, (thinWrite_no h).1⟩
end Go.Proofs.Ytkejdgegkbfofaa
