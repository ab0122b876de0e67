/-
  Stacks: the plain laws. No condition.
-/
import Derived.Test.YtlhbjfjphckifaaBase
import Derived.Test.YtlhbjfjphckifaaNum
import Derived.Test.YtlhbjfjphckifaaInts
import Derived.Test.YtlhbjfjphckifaaApp
import Derived.Test.YtlhbjfjphckifaaIntsW
import Derived.Test.YtlhbjfjphckifaaLib
import Derived.Test.YtlhbjfjphckifaaSpares
import Derived.Test.YtlhbjfjphckifaaOwn
import Derived.Test.YtlhbjfjphckifaaPart
import Derived.Test.YtlhbjfjphckifaaLine
import Derived.Test.YtlhbjfjphckifaaStack
import Derived.Test.YtlhbjfjphckifaaStackM
import Derived.Test.YtlhbjfjphckifaaStackC
import Derived.Test.YtlhbjfjphckifaaStackF
namespace Go.Proofs.Ytlhbjfjphckifaa
open Go.RowKit
theorem see_miss {d : List Int} {l : List Ln} {q : Nat} (h : ∀ y ∈ l, y.at_.toNat ≠ q) : (seeD d l)[q]? = d[q]? := by
  unfold seeD
  induction l generalizing d with
  | nil => rfl
  | cons y r ih =>
    rw [List.foldl_cons, ih (fun z hz => h z (by simp [hz]))]
    rw [List.getElem?_set_ne (h y (by simp))]
theorem see_hit {d : List Int} {l : List Ln} {y : Ln} (hn : (l.map Ln.at_).Nodup) (hp : ∀ z ∈ l, 0 ≤ z.at_) (hy : y ∈ l) (hl : y.at_.toNat < d.length) : (seeD d l)[y.at_.toNat]? = some y.val := by
  induction l generalizing d with
  | nil => simp at hy
  | cons z r ih =>
    simp only [List.map_cons, List.nodup_cons] at hn
    have e : seeD d (z :: r) = seeD (d.set z.at_.toNat z.val) r := rfl
    rw [e]
    rcases List.mem_cons.1 hy with rfl | hy'
    · rw [see_miss]
      · simp [hl]
      · intro u hu he
        have h1 := hp u (by simp [hu])
        have h2 := hp y (by simp)
        exact hn.1 (List.mem_map.2 ⟨u, hu, by omega⟩)
    · exact ih hn.2 (fun u hu => hp u (by simp [hu])) hy' (by simpa using hl)
theorem wb_get_ne {d : List Int} {y : Ln} {q : Nat} (h : y.at_.toNat ≠ q) : (wb d y)[q]? = d[q]? := by
  unfold wb; split
  · rw [List.getElem?_set_ne h]
  · rfl
theorem flush_miss {d : List Int} {l : List Ln} {q : Nat} (h : ∀ y ∈ l, y.at_.toNat ≠ q) : (flushD d l)[q]? = d[q]? := by
  unfold flushD
  induction l generalizing d with
  | nil => rfl
  | cons y r ih => rw [List.foldl_cons, ih (fun z hz => h z (by simp [hz])), wb_get_ne (h y (by simp))]
theorem flush_hit {d : List Int} {l : List Ln} {y : Ln} (hn : (l.map Ln.at_).Nodup) (hp : ∀ z ∈ l, 0 ≤ z.at_) (hy : y ∈ l) (hl : y.at_.toNat < d.length) : (flushD d l)[y.at_.toNat]? = if y.drt then some y.val else d[y.at_.toNat]? := by
  induction l generalizing d with
  | nil => simp at hy
  | cons z r ih =>
    simp only [List.map_cons, List.nodup_cons] at hn
    have e : flushD d (z :: r) = flushD (wb d z) r := rfl
    rw [e]
    rcases List.mem_cons.1 hy with rfl | hy'
    · rw [flush_miss]
      · unfold wb; split <;> simp [hl]
      · intro u hu he
        have h1 := hp u (by simp [hu])
        have h2 := hp y (by simp)
        exact hn.1 (List.mem_map.2 ⟨u, hu, by omega⟩)
    · rw [ih hn.2 (fun u hu => hp u (by simp [hu])) hy' (by rw [wb_len]; exact hl)]
      have hne : z.at_.toNat ≠ y.at_.toNat := by
        intro he
        have h1 := hp z (by simp)
        have h2 := hp y (by simp [hy'])
        exact hn.1 (List.mem_map.2 ⟨y, hy', by omega⟩)
      rw [wb_get_ne hne]
/-- a sector has a line or none -/
theorem line_or (l : List Ln) (q : Nat) : (∃ y ∈ l, y.at_.toNat = q) ∨ ∀ y ∈ l, y.at_.toNat ≠ q := by
  by_cases h : ∃ y ∈ l, y.at_.toNat = q
  · exact .inl h
  · exact .inr fun y hy he => h ⟨y, hy, he⟩
def cleanAt (d : List Int) (y : Ln) : Bool := y.drt || (decide (0 ≤ y.at_) && decide (y.at_ < d.length) && decide (d.getD y.at_.toNat 0 = y.val))
def cleanB (l : List Ln) (d : List Int) : Bool := l.all (cleanAt d)
theorem cleanAt_true {d : List Int} {y : Ln} : cleanAt d y = true ↔ (y.drt = false → 0 ≤ y.at_ ∧ y.at_ < d.length ∧ d[y.at_.toNat]? = some y.val) := by
  unfold cleanAt
  cases y.drt
  · simp only [Bool.false_or, Bool.and_eq_true, decide_eq_true_eq, forall_const]
    constructor
    · rintro ⟨⟨a, b⟩, c⟩
      refine ⟨a, b, ?_⟩
      have hl : y.at_.toNat < d.length := by omega
      rw [← c]; simp [hl]
    · rintro ⟨a, b, c⟩
      refine ⟨⟨a, b⟩, ?_⟩
      simp [c]
  · simp
theorem clean_iff {l : List Ln} {d : List Int} : cleanB l d = true ↔ ∀ y ∈ l, y.drt = false → 0 ≤ y.at_ ∧ y.at_ < d.length ∧ d[y.at_.toNat]? = some y.val := by
  unfold cleanB
  rw [List.all_eq_true]
  exact ⟨fun h y hy => cleanAt_true.1 (h y hy), fun h y hy => cleanAt_true.2 (h y hy)⟩
theorem flush_see {l : List Ln} {d : List Int} {m : Int} (h : CV l m d.length) (hc : cleanB l d = true) : flushD d l = seeD d l := by
  apply List.ext_getElem?
  intro q
  rcases line_or l q with ⟨y, hy, rfl⟩ | hm
  · have hr := h.rng y hy
    have hl : y.at_.toNat < d.length := by omega
    rw [flush_hit h.nod (fun z hz => (h.rng z hz).1) hy hl, see_hit h.nod (fun z hz => (h.rng z hz).1) hy hl]
    split
    · rfl
    · rename_i hd
      exact (clean_iff.1 hc y hy (by simpa using hd)).2.2
  · rw [flush_miss hm, see_miss hm]
theorem cleanL_mem {l : List Ln} {z : Ln} : z ∈ cleanL l ↔ ∃ y ∈ l, z = ⟨y.at_, y.val, false⟩ := by
  unfold cleanL; rw [List.mem_map]
  exact ⟨fun ⟨y, h1, h2⟩ => ⟨y, h1, h2.symm⟩, fun ⟨y, h1, h2⟩ => ⟨y, h1, h2.symm⟩⟩
theorem cleanL_ats (l : List Ln) : (cleanL l).map Ln.at_ = l.map Ln.at_ := by simp [cleanL, Function.comp_def]
theorem see_sync {l : List Ln} {d : List Int} {m : Int} (h : CV l m d.length) : seeD (flushD d l) (cleanL l) = seeD d l := by
  apply List.ext_getElem?
  intro q
  have hp : ∀ z ∈ cleanL l, 0 ≤ z.at_ := fun z hz => by obtain ⟨y, hy, rfl⟩ := cleanL_mem.1 hz; exact (h.rng y hy).1
  rcases line_or l q with ⟨y, hy, rfl⟩ | hm
  · have hr := h.rng y hy
    have hl : y.at_.toNat < d.length := by omega
    rw [see_hit h.nod (fun z hz => (h.rng z hz).1) hy hl]
    exact see_hit (y := ⟨y.at_, y.val, false⟩) (by rw [cleanL_ats]; exact h.nod) hp (cleanL_mem.2 ⟨y, hy, rfl⟩) (by rw [flushD_len]; exact hl)
  · rw [see_miss hm, see_miss, flush_miss hm]
    intro z hz
    obtain ⟨y, hy, rfl⟩ := cleanL_mem.1 hz
    exact hm y hy
theorem flush_clean (d : List Int) (l : List Ln) : flushD d (cleanL l) = d := by
  unfold flushD cleanL
  induction l generalizing d with
  | nil => rfl
  | cons y r ih => rw [List.map_cons, List.foldl_cons]; exact ih d
theorem cleanL_idem (l : List Ln) : cleanL (cleanL l) = cleanL l := by simp [cleanL, Function.comp_def]
theorem sync_cv {l : List Ln} {d : List Int} {m : Int} (h : CV l m d.length) : CV (cleanL l) m (flushD d l).length := by
  refine ⟨by omega, by rw [flushD_len]; exact h.n1, h.m0, h.m1, by rw [cleanL_len]; exact h.len, ?_, by rw [cleanL_ats]; exact h.nod⟩
  intro z hz
  obtain ⟨y, hy, rfl⟩ := cleanL_mem.1 hz
  rw [flushD_len]
  exact h.rng y hy
theorem disk_of {d : List Int} (h1 : d.length ≤ 64) (h2 : ∀ x ∈ d, 0 ≤ x ∧ x ≤ 255) : diskB d = true := by
  rw [diskB_true]
  refine ⟨h1, ?_⟩
  rw [allIn, List.all_eq_true]
  exact fun x hx => inB_true.2 (h2 x hx)
theorem disk_mem {d : List Int} (h : diskB d = true) : ∀ x ∈ d, 0 ≤ x ∧ x ≤ 255 := fun _ hx => allIn_mem (diskB_true.1 h).2 hx
theorem disk_set {d : List Int} (h : diskB d = true) (k : Nat) {v : Int} (hv : 0 ≤ v ∧ v ≤ 255) : diskB (d.set k v) = true := by
  refine disk_of (by simpa using (diskB_true.1 h).1) fun x hx => ?_
  rcases List.mem_or_eq_of_mem_set hx with h1 | h1
  · exact disk_mem h x h1
  · rw [h1]; exact hv
theorem disk_flush {l : List Ln} {d : List Int} (h : diskB d = true) (hl : ∀ y ∈ l, 0 ≤ y.val ∧ y.val ≤ 255) : diskB (flushD d l) = true := by
  unfold flushD
  induction l generalizing d with
  | nil => exact h
  | cons y r ih =>
    rw [List.foldl_cons]
    refine ih ?_ (fun z hz => hl z (by simp [hz]))
    unfold wb; split
    · exact disk_set h _ (hl y (by simp))
    · exact h
theorem lru_mem {l : List Ln} {x y : Ln} : y ∈ lruL l x ↔ y = x ∨ (y ∈ l ∧ y.at_ ≠ x.at_) := by simp [lruL]
theorem lru_nod {l : List Ln} {x : Ln} (h : (l.map Ln.at_).Nodup) : ((lruL l x).map Ln.at_).Nodup := by
  unfold lruL
  rw [List.map_cons, List.nodup_cons]
  refine ⟨?_, ?_⟩
  · intro hm
    obtain ⟨y, hy, he⟩ := List.mem_map.1 hm
    simp at hy
    exact hy.2 he
  · exact List.Nodup.sublist (List.Sublist.map _ List.filter_sublist) h
theorem see_lru {l : List Ln} {d : List Int} {x : Ln} {m : Int} (h : CV l m d.length) (h0 : 0 ≤ x.at_) (h1 : x.at_ < d.length) : seeD d (lruL l x) = (seeD d l).set x.at_.toNat x.val := by
  apply List.ext_getElem?
  intro q
  have hp : ∀ z ∈ lruL l x, 0 ≤ z.at_ := fun z hz => by
    rcases lru_mem.1 hz with rfl | ⟨hz, _⟩
    · exact h0
    · exact (h.rng z hz).1
  by_cases hq : x.at_.toNat = q
  · subst hq
    rw [see_hit (lru_nod h.nod) hp (lru_mem.2 (.inl rfl)) (by omega), List.getElem?_set_self (by rw [seeD_len]; omega)]
  · rw [List.getElem?_set_ne hq]
    rcases line_or l q with ⟨y, hy, rfl⟩ | hm
    · have hr := h.rng y hy
      rw [see_hit h.nod (fun z hz => (h.rng z hz).1) hy (by omega)]
      exact see_hit (lru_nod h.nod) hp (lru_mem.2 (.inr ⟨hy, fun e => hq (by rw [e])⟩)) (by omega)
    · rw [see_miss hm, see_miss]
      intro z hz
      rcases lru_mem.1 hz with rfl | ⟨hz, _⟩
      · exact hq
      · exact hm z hz
/-- what is cut off is written, if it has to be -/
theorem see_cut {L : List Ln} {d : List Int} {m : Int} (hn : (L.map Ln.at_).Nodup) (hr : ∀ y ∈ L, 0 ≤ y.at_ ∧ y.at_ < d.length) (hc : cleanB L d = true) (hm : 0 ≤ m) (hl : (L.length : Int) ≤ m + 1) :
    seeD (cutD d L m) (cutL L m) = seeD d L ∧ cleanB (cutL L m) (cutD d L m) = true := by
  unfold cutD cutL
  split
  · rename_i hlt
    have hk : m.toNat < L.length := by omega
    have hg : L.getD m.toNat default = L[m.toNat] := by simp [hk]
    rw [hg]
    have hL : L = L.take m.toNat ++ [L[m.toNat]] := by
      rw [← List.take_succ_eq_append_getElem hk, List.take_of_length_le (by omega)]
    obtain ⟨z, hz⟩ : ∃ z, z = L[m.toNat] := ⟨_, rfl⟩
    rw [← hz] at hL ⊢
    obtain ⟨T, hT⟩ : ∃ T, T = L.take m.toNat := ⟨_, rfl⟩
    rw [← hT] at hL ⊢
    have hzm : z ∈ L := by rw [hL]; simp
    have hTm : ∀ y ∈ T, y ∈ L := fun y hy => by rw [hL]; simp [hy]
    have hzr := hr z hzm
    have hnz : ∀ y ∈ T, y.at_ ≠ z.at_ := by
      rw [hL, List.map_append, List.nodup_append] at hn
      intro y hy he
      exact hn.2.2 _ (List.mem_map.2 ⟨y, hy, rfl⟩) _ (by simp) he
    have hnT : (T.map Ln.at_).Nodup := by
      rw [hL, List.map_append, List.nodup_append] at hn
      exact hn.1
    have hcz := clean_iff.1 hc z hzm
    have hd' : (if z.drt = true then d.set z.at_.toNat z.val else d) = wb d z := rfl
    rw [hd']
    have hwz : (wb d z)[z.at_.toNat]? = some z.val := by
      unfold wb
      split
      · rw [List.getElem?_set_self (by omega)]
      · rename_i hd; exact (hcz (by simpa using hd)).2.2
    refine ⟨?_, ?_⟩
    · apply List.ext_getElem?
      intro q
      by_cases hq : z.at_.toNat = q
      · subst hq
        rw [see_miss, hwz, see_hit hn (fun y hy => (hr y hy).1) hzm (by omega)]
        intro y hy he
        exact hnz y hy (by have := (hr y (hTm y hy)).1; omega)
      · rcases line_or T q with ⟨y, hy, rfl⟩ | hm'
        · have hyr := hr y (hTm y hy)
          rw [see_hit hnT (fun u hu => (hr u (hTm u hu)).1) hy (by rw [wb_len]; omega), see_hit hn (fun u hu => (hr u hu).1) (hTm y hy) (by omega)]
        · rw [see_miss hm', wb_get_ne hq, see_miss]
          intro y hy
          rw [hL] at hy
          rcases List.mem_append.1 hy with h1 | h1
          · exact hm' y h1
          · simp at h1; rw [h1]; exact hq
    · rw [clean_iff]
      intro y hy hd
      obtain ⟨a, b, c⟩ := clean_iff.1 hc y (hTm y hy) hd
      refine ⟨a, by rw [wb_len]; exact b, ?_⟩
      rw [wb_get_ne, c]
      intro he
      exact hnz y hy (by omega)
  · exact ⟨rfl, hc⟩
theorem mem_cut {L : List Ln} {m : Int} {y : Ln} (h : y ∈ cutL L m) : y ∈ L := by
  unfold cutL at h; split at h
  · exact List.mem_of_mem_take h
  · exact h
theorem cut_nod {L : List Ln} {m : Int} (h : (L.map Ln.at_).Nodup) : ((cutL L m).map Ln.at_).Nodup := by
  unfold cutL; split
  · exact List.Nodup.sublist (List.Sublist.map _ (List.take_sublist _ _)) h
  · exact h
theorem cutL_le {L : List Ln} {m : Int} (hm : 0 ≤ m) : ((cutL L m).length : Int) ≤ m := by
  unfold cutL; split
  · rw [List.length_take]; omega
  · omega
theorem used_valid {t : Stk} {x : Ln} (h : stackB t = true) (h0 : 0 ≤ x.at_) (h1 : x.at_ < t.dsk.length) (h2 : 0 ≤ x.val ∧ x.val ≤ 255) : stackB (usedS t x) = true := by
  obtain ⟨a, b, c⟩ := stack_true.1 h
  have hv := cache_iff.1 c
  have hr : ∀ y ∈ lruL t.lns x, 0 ≤ y.at_ ∧ y.at_ < t.dsk.length ∧ 0 ≤ y.val ∧ y.val ≤ 255 := by
    intro y hy
    rcases lru_mem.1 hy with rfl | ⟨hy, _⟩
    · exact ⟨h0, h1, h2.1, h2.2⟩
    · exact hv.rng y hy
  have hll := lruL_len t.lns x
  have := hv.len
  have := hv.m0
  refine stack_true.2 ⟨?_, ?_, cache_iff.2 ⟨by omega, ?_, hv.m0, hv.m1, ?_, ?_, cut_nod (lru_nod hv.nod)⟩⟩
  · unfold usedS cutD
    simp only
    split
    · split
      · rename_i hlt _
        have hk : t.mst.toNat < (lruL t.lns x).length := by omega
        have hg : (lruL t.lns x).getD t.mst.toNat default = (lruL t.lns x)[t.mst.toNat] := by simp [hk]
        rw [hg]
        have := hr _ (List.getElem_mem hk)
        exact disk_set a _ ⟨this.2.2.1, this.2.2.2⟩
      · exact a
    · exact a
  · simpa [usedS, cutD_len] using b
  · simp only [usedS, cutD_len]; exact hv.n1
  · exact cutL_le (by omega)
  · intro y hy
    simp only [usedS, cutD_len]
    exact hr y (mem_cut hy)
theorem used_see {t : Stk} {x : Ln} (h : stackB t = true) (hc : cleanB t.lns t.dsk = true) (h0 : 0 ≤ x.at_) (h1 : x.at_ < t.dsk.length) (hx : x.drt = false → t.dsk[x.at_.toNat]? = some x.val) :
    seeD (usedS t x).dsk (usedS t x).lns = (seeD t.dsk t.lns).set x.at_.toNat x.val ∧ cleanB (usedS t x).lns (usedS t x).dsk = true := by
  obtain ⟨a, b, c⟩ := stack_true.1 h
  have hv := cache_iff.1 c
  have hll := lruL_len t.lns x
  have := hv.len
  have := hv.m0
  have hcL : cleanB (lruL t.lns x) t.dsk = true := by
    rw [clean_iff]
    intro y hy hd
    rcases lru_mem.1 hy with rfl | ⟨hy, _⟩
    · exact ⟨h0, h1, hx hd⟩
    · exact clean_iff.1 hc y hy hd
  obtain ⟨e1, e2⟩ := see_cut (m := t.mst) (lru_nod (x := x) hv.nod) (fun y hy => by
    rcases lru_mem.1 hy with rfl | ⟨hy, _⟩
    · exact ⟨h0, h1⟩
    · have := hv.rng y hy; exact ⟨this.1, this.2.1⟩) hcL (by omega) (by omega)
  exact ⟨by rw [show seeD (usedS t x).dsk (usedS t x).lns = seeD (cutD t.dsk (lruL t.lns x) t.mst) (cutL (lruL t.lns x) t.mst) from rfl, e1, see_lru hv h0 h1], e2⟩
theorem lineFor_facts {t : Stk} (h : stackB t = true) {q : Int} (h0 : 0 ≤ q) (h1 : q < t.dsk.length) :
    (lineFor t.lns t.dsk q).at_ = q ∧ (0 ≤ (lineFor t.lns t.dsk q).val ∧ (lineFor t.lns t.dsk q).val ≤ 255) ∧ (seeD t.dsk t.lns)[q.toNat]? = some (lineFor t.lns t.dsk q).val ∧ (cleanB t.lns t.dsk = true → (lineFor t.lns t.dsk q).drt = false → t.dsk[q.toNat]? = some (lineFor t.lns t.dsk q).val) := by
  obtain ⟨a, b, c⟩ := stack_true.1 h
  have hv := cache_iff.1 c
  have hql : q.toNat < t.dsk.length := by omega
  unfold lineFor
  split
  · rename_i hi
    obtain ⟨k, e1, hk, e2, e3⟩ := idx_get hi
    have hk' : k < t.lns.length := by simpa using hk
    have hg : t.lns.getD (idx (t.lns.map Ln.at_) q).toNat default = t.lns[k] := by rw [e1]; simp [hk']
    rw [hg]
    have e4 : t.lns[k].at_ = q := by simpa using e2
    have hr := hv.rng _ (List.getElem_mem hk')
    refine ⟨e4, ⟨hr.2.2.1, hr.2.2.2⟩, ?_, ?_⟩
    · have := see_hit (d := t.dsk) hv.nod (fun z hz => (hv.rng z hz).1) (List.getElem_mem hk') (by omega)
      rwa [e4] at this
    · intro hc hd
      have := (clean_iff.1 hc _ (List.getElem_mem hk') hd).2.2
      rwa [e4] at this
  · rename_i hi
    have hno : q ∉ t.lns.map Ln.at_ := idx_neg.1 (by omega)
    have hm := disk_mem a _ (List.getElem_mem hql)
    refine ⟨rfl, ?_, ?_, ?_⟩
    · simpa [hql] using hm
    · rw [see_miss]
      · simp [hql]
      · intro y hy he
        exact hno (List.mem_map.2 ⟨y, hy, by have := (hv.rng y hy).1; omega⟩)
    · intro _ _; simp [hql]
end Go.Proofs.Ytlhbjfjphckifaa
