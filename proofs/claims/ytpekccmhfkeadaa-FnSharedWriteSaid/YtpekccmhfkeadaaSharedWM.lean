/-
  Shared volumes: the plain mathematics of ShareDisk and SharedWrite. No condition.
-/
import Derived.Test.YtpekccmhfkeadaaBase
import Derived.Test.YtpekccmhfkeadaaNum
import Derived.Test.YtpekccmhfkeadaaInts
import Derived.Test.YtpekccmhfkeadaaApp
import Derived.Test.YtpekccmhfkeadaaIntsW
import Derived.Test.YtpekccmhfkeadaaLib
import Derived.Test.YtpekccmhfkeadaaSpares
import Derived.Test.YtpekccmhfkeadaaOwn
import Derived.Test.YtpekccmhfkeadaaCopy
import Derived.Test.YtpekccmhfkeadaaShared
import Derived.Test.YtpekccmhfkeadaaSharedM
import Derived.Test.YtpekccmhfkeadaaSharedC
import Derived.Test.YtpekccmhfkeadaaSharedV
import Derived.Test.YtpekccmhfkeadaaSharedU
import Derived.Test.YtpekccmhfkeadaaSharedD
namespace Go.Proofs.Ytpekccmhfkeadaa
open Go.RowKit
/-- a volume whose values have their users, maybe none -/
structure SV (whr : List Int) (cps : List Cp) : Prop where
  rng : ∀ n ∈ whr, 0 ≤ n ∧ n < cps.length
  val : ∀ p ∈ cps, 0 ≤ p.val ∧ p.val ≤ 255
  usr : ∀ i (h : i < cps.length), cps[i].usr = (whr.count (i : Int) : Nat)
  nod : (cps.map Cp.val).Nodup
theorem nodup_take {l : List Int} : l.Nodup ↔ ∀ k (h : k < l.length), l[k] ∉ l.take k := by
  rw [List.nodup_iff_pairwise_ne, List.pairwise_iff_getElem]
  constructor
  · intro h k hk hm
    obtain ⟨j, hj, he⟩ := List.mem_take_iff_getElem.1 hm
    exact h j k (by omega) hk (by omega) he
  · intro h i j hi hj hij he
    exact h j hj (List.mem_take_iff_getElem.2 ⟨i, by omega, he⟩)
theorem nodup_inj {l : List Int} (h : l.Nodup) {j k : Nat} (hj : j < l.length) (hk : k < l.length) (he : l[j] = l[k]) : j = k := by
  have := List.pairwise_iff_getElem.1 (List.nodup_iff_pairwise_ne.1 h)
  rcases Nat.lt_trichotomy j k with h1 | h1 | h1
  · exact absurd he (this j k hj hk h1)
  · exact h1
  · exact absurd he.symm (this k j hk hj h1)
theorem sharedB_iff {s : Sh} : sharedB s = true ↔ s.whr.length ≤ 64 ∧ SV s.whr s.cps ∧ ∀ p ∈ s.cps, 1 ≤ p.usr := by
  have hok : ∀ k (hk : k < s.cps.length), shOkAt s k = true ↔ ((0 ≤ s.cps[k].val ∧ s.cps[k].val ≤ 255) ∧ s.cps[k].usr = (s.whr.count (k : Int) : Nat)) ∧ 1 ≤ s.cps[k].usr ∧ s.cps[k].val ∉ (s.cps.map Cp.val).take k := by
    intro k hk
    simp only [shOkAt, List.getD_eq_getElem?_getD, List.getElem?_eq_getElem hk, Option.getD_some, Bool.and_eq_true, decide_eq_true_eq, beq_iff_eq, Bool.not_eq_true', decide_eq_false_iff_not, inB_true, List.map_take, and_assoc]
  simp only [sharedB, Bool.and_eq_true, decide_eq_true_eq, allK_iff]
  constructor
  · rintro ⟨⟨h1, h2⟩, h3⟩
    refine ⟨h1, ⟨?_, ?_, ?_, ?_⟩, ?_⟩
    · intro n hn
      have := allIn_mem h2 hn
      omega
    · intro p hp
      obtain ⟨k, hk, rfl⟩ := List.getElem_of_mem hp
      exact ((hok k hk).1 (h3 k hk)).1.1
    · intro i hi
      exact ((hok i hi).1 (h3 i hi)).1.2
    · rw [nodup_take]
      intro k hk
      have hk' : k < s.cps.length := by simpa using hk
      have := ((hok k hk').1 (h3 k hk')).2.2
      simpa using this
    · intro p hp
      obtain ⟨k, hk, rfl⟩ := List.getElem_of_mem hp
      exact ((hok k hk).1 (h3 k hk)).2.1
  · rintro ⟨h1, h2, h3⟩
    refine ⟨⟨h1, ?_⟩, ?_⟩
    · refine List.all_eq_true.2 fun n hn => ?_
      have := h2.rng n hn
      exact inB_true.2 ⟨this.1, by omega⟩
    · intro k hk
      refine (hok k hk).2 ⟨⟨h2.val _ (List.getElem_mem hk), h2.usr k hk⟩, h3 _ (List.getElem_mem hk), ?_⟩
      have := nodup_take.1 h2.nod k (by simpa using hk)
      simpa using this
/-- one user more -/
structure UseOk (whr : List Int) (cps : List Cp) (v : Int) (n : Nat) (c1 : List Cp) : Prop where
  lt : n < c1.length
  le : cps.length ≤ c1.length
  usr : ∀ i (h : i < c1.length), c1[i].usr = (whr.count (i : Int) : Nat) + if i = n then 1 else 0
  val : ∀ p ∈ c1, 0 ≤ p.val ∧ p.val ≤ 255
  nod : (c1.map Cp.val).Nodup
  old : ∀ i, i < cps.length → (c1.getD i default).val = (cps.getD i default).val
  new : (c1.getD n default).val = v
  mem : ∀ x, x ∈ c1.map Cp.val ↔ x = v ∨ x ∈ cps.map Cp.val
  len : c1.length = cps.length + if v ∈ cps.map Cp.val then 0 else 1
theorem use_ok {whr : List Int} {cps : List Cp} {v : Int} (h : SV whr cps) (hv : 0 ≤ v ∧ v ≤ 255) : UseOk whr cps v (useN cps v) (useL cps v) := by
  by_cases hi : idx (cps.map Cp.val) v < 0
  · have hm := idx_neg.1 hi
    obtain ⟨e1, e2⟩ := useN_new hi
    rw [e1, e2]
    refine ⟨by simp, by simp, ?_, ?_, ?_, ?_, ?_, ?_, ?_⟩
    · intro i hil
      by_cases hic : i < cps.length
      · rw [List.getElem_append_left hic, h.usr i hic, if_neg (by omega)]; simp
      · have hie : i = cps.length := by simp at hil; omega
        subst hie
        rw [List.getElem_append_right (by omega), if_pos rfl, List.count_eq_zero_of_not_mem]
        · simp
        · intro hn
          have := h.rng _ hn
          omega
    · intro p hp
      rcases List.mem_append.1 hp with hp | hp
      · exact h.val p hp
      · simp at hp; subst hp; exact hv
    · rw [List.map_append, List.nodup_append]
      refine ⟨h.nod, by simp, ?_⟩
      intro a ha b hb
      simp at hb
      subst hb
      exact fun he => hm (he ▸ ha)
    · intro i hil
      simp [List.getElem?_append_left hil]
    · simp
    · intro x; simp [or_comm]
    · rw [if_neg hm]; simp
  · have hm : v ∈ cps.map Cp.val := Decidable.byContradiction fun hn => hi (idx_neg.2 hn)
    obtain ⟨i, hie, hil, hio, -⟩ := idx_get (Int.not_lt.1 hi)
    rw [List.length_map] at hil
    obtain ⟨e1, e2⟩ := useN_old hie hil
    have hval : cps[i].val = v := by simpa using hio
    rw [e1, e2]
    have hmap : (cps.set i ⟨v, cps[i].usr + 1⟩).map Cp.val = cps.map Cp.val := by
      rw [List.map_set]
      apply List.ext_getElem
      · simp
      · intro j h1 h2
        by_cases hj : i = j
        · subst hj; simp [hval]
        · rw [List.getElem_set_ne hj]
    refine ⟨by simpa using hil, by simp, ?_, ?_, ?_, ?_, ?_, ?_, ?_⟩
    · intro j hj
      have hj' : j < cps.length := by simpa using hj
      by_cases hji : i = j
      · subst hji
        simp [h.usr i hil]
      · rw [List.getElem_set_ne hji, h.usr j hj', if_neg (fun e => hji e.symm)]; simp
    · intro p hp
      rcases List.mem_or_eq_of_mem_set hp with hp | hp
      · exact h.val p hp
      · subst hp; exact hv
    · rw [hmap]; exact h.nod
    · intro j hj
      by_cases hji : i = j
      · subst hji; simp [hil, hval]
      · simp [List.getElem?_set_ne hji]
    · simp [hil]
    · intro x; rw [hmap]
      constructor
      · exact Or.inr
      · rintro (rfl | hx)
        · exact hm
        · exact hx
    · rw [if_pos hm]; simp
theorem shView_congr {whr : List Int} {c1 c2 : List Cp} (h : ∀ n ∈ whr, (c1.getD n.toNat default).val = (c2.getD n.toNat default).val) : shView ⟨whr, c1⟩ = shView ⟨whr, c2⟩ := by
  simp only [shView]
  exact List.map_congr_left h
/-- ShareDisk: validity, view -/
theorem shareTo_ok (d : List Int) (hd : ∀ x ∈ d, 0 ≤ x ∧ x ≤ 255) (k : Nat) (hk : k ≤ d.length) :
    SV (shareTo d k).whr (shareTo d k).cps ∧ (∀ p ∈ (shareTo d k).cps, 1 ≤ p.usr) ∧ shView (shareTo d k) = d.take k ∧ ∀ x, x ∈ (shareTo d k).cps.map Cp.val ↔ x ∈ d.take k := by
  induction k with
  | zero => exact ⟨⟨by simp [shareTo], by simp [shareTo], by simp [shareTo], by simp [shareTo]⟩, by simp [shareTo], by simp [shareTo, shView], by simp [shareTo]⟩
  | succ k ih =>
    obtain ⟨h1, h2, h3, h4⟩ := ih (by omega)
    have hkl : k < d.length := by omega
    have hu := use_ok h1 (hd _ (List.getElem_mem hkl))
    rw [shareTo_succ d hkl]
    generalize shareTo d k = s at *
    generalize useN s.cps d[k] = n at *
    generalize useL s.cps d[k] = c1 at *
    refine ⟨⟨?_, hu.val, ?_, hu.nod⟩, ?_, ?_, ?_⟩
    · intro m hm
      rcases List.mem_append.1 hm with hm | hm
      · have := h1.rng m hm; have := hu.le; simp only; omega
      · simp at hm; subst hm; have := hu.lt; simp only; omega
    · intro i hi
      rw [hu.usr i hi, List.count_append]
      simp only [List.count_cons, List.count_nil]
      by_cases hin : i = n
      · subst hin; simp
      · have : ¬ (n : Int) = (i : Int) := by omega
        simp [hin, this]
    · intro p hp
      obtain ⟨i, hi, rfl⟩ := List.getElem_of_mem hp
      have hui := hu.usr i hi
      by_cases hin : i = n
      · rw [if_pos hin] at hui
        simp only at hui ⊢; omega
      · rw [if_neg hin] at hui
        have hlen := hu.len
        have hic : i < s.cps.length := by
          by_cases hv : d[k] ∈ s.cps.map Cp.val
          · rw [if_pos hv] at hlen; simp only at hi; omega
          · rw [if_neg hv] at hlen
            -- the new one is n
            have hni : n = s.cps.length := by
              rcases Nat.lt_or_ge n s.cps.length with hn | hn
              · have ho := hu.old n hn
                rw [hu.new] at ho
                exact absurd (List.mem_map.2 ⟨s.cps[n], List.getElem_mem hn, by simpa [hn] using ho.symm⟩) hv
              · have := hu.lt; omega
            simp only at hi; omega
        have hus := h1.usr i hic
        have := h2 _ (List.getElem_mem hic)
        simp only at hui ⊢; omega
    · have e1 : shView ⟨s.whr ++ [(n : Int)], c1⟩ = shView ⟨s.whr, c1⟩ ++ [(c1.getD n default).val] := by simp [shView]
      rw [e1, hu.new, shView_congr (c2 := s.cps) fun m hm => hu.old _ (by have := h1.rng m hm; omega)]
      rw [List.take_succ_eq_append_getElem hkl, ← h3]
    · intro x
      rw [hu.mem, h4, List.take_succ_eq_append_getElem hkl, List.mem_append]
      simp only [List.mem_singleton]
      exact or_comm
theorem shareB_valid {d : List Int} (h : diskB d = true) : sharedB (shareB d) = true ∧ shView (shareB d) = d := by
  obtain ⟨h1, h2⟩ := diskB_true.1 h
  have hh := shareTo_ok d (fun x hx => allIn_mem h2 hx) d.length (Nat.le_refl _)
  have he : shareB d = shareTo d d.length := by unfold shareB; rw [h]; rfl
  rw [he]
  refine ⟨sharedB_iff.2 ⟨by rw [shareTo_len]; exact h1, hh.1, hh.2.1⟩, ?_⟩
  have := hh.2.2.1
  rwa [List.take_of_length_le (Nat.le_refl _)] at this
/-- how many of the first k values are there for the first time -/
def diffTo (d : List Int) : Nat → Nat
  | 0 => 0
  | k + 1 => diffTo d k + if d.getD k 0 ∈ d.take k then 0 else 1
theorem diffTo_le (d : List Int) (k : Nat) : diffTo d k ≤ k := by
  induction k with
  | zero => simp [diffTo]
  | succ k ih => simp only [diffTo]; split <;> omega
theorem diffTo_cps (d : List Int) (hd : ∀ x ∈ d, 0 ≤ x ∧ x ≤ 255) (k : Nat) (hk : k ≤ d.length) : (shareTo d k).cps.length = diffTo d k := by
  induction k with
  | zero => simp [shareTo, diffTo]
  | succ k ih =>
    have hkl : k < d.length := by omega
    obtain ⟨h1, -, -, h4⟩ := shareTo_ok d hd k (by omega)
    have hu := use_ok h1 (hd _ (List.getElem_mem hkl))
    have hg : d.getD k 0 = d[k] := by simp [hkl]
    rw [shareTo_succ d hkl]
    simp only [diffTo, hg]
    rw [hu.len, ih (by omega)]
    simp only [h4]
/-- two valid volumes with one view have as many values -/
theorem cps_view {s : Sh} (h : sharedB s = true) (x : Int) : x ∈ s.cps.map Cp.val ↔ x ∈ shView s := by
  obtain ⟨_, h2, h3⟩ := sharedB_iff.1 h
  simp only [shView, List.mem_map]
  constructor
  · rintro ⟨p, hp, rfl⟩
    obtain ⟨i, hi, rfl⟩ := List.getElem_of_mem hp
    have hu := h2.usr i hi
    have h1 := h3 _ (List.getElem_mem hi)
    have hc : 0 < s.whr.count (i : Int) := by omega
    refine ⟨(i : Int), List.count_pos_iff.1 hc, ?_⟩
    simp [hi]
  · rintro ⟨n, hn, rfl⟩
    have := h2.rng n hn
    have hl : n.toNat < s.cps.length := by omega
    exact ⟨s.cps[n.toNat], List.getElem_mem hl, by simp [hl]⟩
theorem cps_len_eq {s t : Sh} (h : sharedB s = true) (k : sharedB t = true) (hv : shView s = shView t) : s.cps.length = t.cps.length := by
  have h1 := (sharedB_iff.1 h).2.1.nod
  have h2 := (sharedB_iff.1 k).2.1.nod
  have := (List.perm_ext_iff_of_nodup h1 h2).2 fun x => by rw [cps_view h, cps_view k, hv]
  simpa using this.length_eq
theorem shView_disk {s : Sh} (h : sharedB s = true) : diskB (shView s) = true := by
  obtain ⟨h1, h2, _⟩ := sharedB_iff.1 h
  refine diskB_true.2 ⟨by simpa [shView] using h1, List.all_eq_true.2 fun x hx => ?_⟩
  obtain ⟨p, hp, rfl⟩ := List.mem_map.1 ((cps_view h x).2 hx)
  exact inB_true.2 (h2.val p hp)
/-- SharedWrite -/
def lessAt (l : List Cp) (i : Nat) : List Cp := l.set i ⟨(l.getD i default).val, (l.getD i default).usr - 1⟩
def delSh (s : Sh) (o : Nat) : Sh := ⟨s.whr.map fun n => if (o : Int) < n then n - 1 else n, s.cps.eraseIdx o⟩
def putSh (s : Sh) (k : Nat) (v : Int) : Sh :=
  if ((lessAt (useL s.cps v) (s.whr.getD k 0).toNat).getD (s.whr.getD k 0).toNat default).usr = 0 then delSh ⟨s.whr.set k (useN s.cps v), lessAt (useL s.cps v) (s.whr.getD k 0).toNat⟩ (s.whr.getD k 0).toNat
  else ⟨s.whr.set k (useN s.cps v), lessAt (useL s.cps v) (s.whr.getD k 0).toNat⟩
def putOk (s : Sh) (at_ v : Int) : Bool := sharedB s && inB at_ 0 (s.whr.length - 1) && inB v 0 255
def putS (s : Sh) (at_ v : Int) : Sh := if putOk s at_ v then putSh s at_.toNat v else ⟨[], []⟩
theorem lessAt_len (l : List Cp) (i : Nat) : (lessAt l i).length = l.length := by simp [lessAt]
theorem putS_size (s : Sh) (at_ v : Int) : sizeShared (putS s at_ v) ≤ sizeShared s + 1 := by
  unfold putS
  split
  · unfold putSh
    have := useL_len s.cps v
    split
    · simp only [sizeShared, delSh, List.length_map, List.length_set]
      have h2 := List.length_eraseIdx_le (lessAt (useL s.cps v) (s.whr.getD at_.toNat 0).toNat) (s.whr.getD at_.toNat 0).toNat
      rw [lessAt_len] at h2
      omega
    · simp only [sizeShared, lessAt_len, List.length_set]; omega
  · simp [sizeShared]
theorem putSh_mid {s : Sh} (h : sharedB s = true) {k : Nat} (hk : k < s.whr.length) {v : Int} (hv : 0 ≤ v ∧ v ≤ 255) {o : Nat} (ho : s.whr[k] = (o : Int)) :
    SV (s.whr.set k (useN s.cps v)) (lessAt (useL s.cps v) o) ∧ (∀ i (hi : i < (lessAt (useL s.cps v) o).length), i ≠ o → 1 ≤ (lessAt (useL s.cps v) o)[i].usr) ∧ shView ⟨s.whr.set k (useN s.cps v), lessAt (useL s.cps v) o⟩ = (shView s).set k v ∧ o < s.cps.length := by
  obtain ⟨_, h2, h3⟩ := sharedB_iff.1 h
  have hoc : o < s.cps.length := by have := h2.rng _ (List.getElem_mem hk); omega
  have hu := use_ok h2 hv
  have hlen : (lessAt (useL s.cps v) o).length = (useL s.cps v).length := lessAt_len _ _
  have hnew : (useL s.cps v).length = s.cps.length ∨ (useN s.cps v = s.cps.length ∧ (useL s.cps v).length = s.cps.length + 1) := by
    by_cases hi : idx (s.cps.map Cp.val) v < 0
    · obtain ⟨e1, e2⟩ := useN_new hi
      exact .inr ⟨e1, by rw [e2]; simp⟩
    · exact .inl (by unfold useL; rw [if_neg hi]; simp)
  generalize useN s.cps v = n at *
  generalize useL s.cps v = c1 at *
  have hoc1 : o < c1.length := by have := hu.le; omega
  have hle : lessAt c1 o = c1.set o ⟨c1[o].val, c1[o].usr - 1⟩ := by simp [lessAt, hoc1]
  have hmap : (lessAt c1 o).map Cp.val = c1.map Cp.val := by
    rw [hle, List.map_set]
    apply List.ext_getElem
    · simp
    · intro j h1 h2
      by_cases hj : o = j
      · subst hj; simp
      · rw [List.getElem_set_ne hj]
  have hgv : ∀ i, ((lessAt c1 o).getD i default).val = (c1.getD i default).val := by
    intro i
    rcases Nat.lt_or_ge i c1.length with hi | hi
    · have e : ((lessAt c1 o).map Cp.val)[i]'(by simpa [hlen] using hi) = (c1.map Cp.val)[i]'(by simpa using hi) := by simp only [hmap]
      simpa [hi, hlen] using e
    · rw [List.getD_eq_getElem?_getD, List.getD_eq_getElem?_getD, List.getElem?_eq_none (by omega), List.getElem?_eq_none (by omega)]
  have husr : ∀ i (hi : i < (lessAt c1 o).length), (lessAt c1 o)[i].usr = (s.whr.count (i : Int) : Nat) + (if i = n then 1 else 0) - (if i = o then 1 else 0) := by
    intro i hi
    have hi' : i < c1.length := by omega
    have hui := hu.usr i hi'
    by_cases hio : o = i
    · subst hio
      simp only [hle, List.getElem_set_self]
      rw [hui]; simp
    · have hio' : ¬ i = o := fun e => hio e.symm
      simp only [hle, List.getElem_set_ne hio, hio', if_false]
      rw [hui]; simp
  have hcnt : ∀ i : Nat, ((s.whr.set k (n : Int)).count (i : Int) : Int) = (s.whr.count (i : Int) : Nat) + (if i = n then 1 else 0) - (if i = o then 1 else 0) := by
    intro i
    have hpos : i = o → 0 < s.whr.count (i : Int) := fun e => List.count_pos_iff.2 (by rw [e, ← ho]; exact List.getElem_mem hk)
    rw [List.count_set hk, ho]
    simp only [beq_iff_eq]
    rcases Decidable.em (i = o) with e | e
    · have := hpos e
      (repeat' split) <;> omega
    · (repeat' split) <;> omega
  refine ⟨⟨?_, ?_, ?_, ?_⟩, ?_, ?_, hoc⟩
  · intro m hm
    rcases List.mem_or_eq_of_mem_set hm with hm | hm
    · have := h2.rng m hm; have := hu.le; omega
    · subst hm; have := hu.lt; omega
  · intro p hp
    have : p.val ∈ (lessAt c1 o).map Cp.val := List.mem_map.2 ⟨p, hp, rfl⟩
    rw [hmap] at this
    obtain ⟨q, hq, he⟩ := List.mem_map.1 this
    rw [← he]; exact hu.val q hq
  · intro i hi
    rw [husr i hi, hcnt i]
  · rw [hmap]; exact hu.nod
  · intro i hi hio
    rw [husr i hi, if_neg hio]
    by_cases hin : i = n
    · rw [if_pos hin]; omega
    · rw [if_neg hin]
      have hic : i < s.cps.length := by rcases hnew with h5 | ⟨h5, h6⟩ <;> omega
      have a := h2.usr i hic
      have b := h3 _ (List.getElem_mem hic)
      omega
  · have e1 : shView ⟨s.whr.set k (n : Int), lessAt c1 o⟩ = (shView ⟨s.whr, lessAt c1 o⟩).set k ((lessAt c1 o).getD n default).val := by simp [shView, List.map_set]
    rw [e1, hgv, hu.new, shView_congr (c2 := s.cps)]
    intro m hm
    rw [hgv]
    exact hu.old _ (by have := h2.rng m hm; omega)
theorem delSh_ok {whr : List Int} {cps : List Cp} {o : Nat} (h : SV whr cps) (ho : o < cps.length) (h0 : cps[o].usr = 0) (h1 : ∀ i (hi : i < cps.length), i ≠ o → 1 ≤ cps[i].usr) :
    SV (delSh ⟨whr, cps⟩ o).whr (delSh ⟨whr, cps⟩ o).cps ∧ (∀ p ∈ (delSh ⟨whr, cps⟩ o).cps, 1 ≤ p.usr) ∧ shView (delSh ⟨whr, cps⟩ o) = shView ⟨whr, cps⟩ := by
  have hno : (o : Int) ∉ whr := by
    have := h.usr o ho
    rw [h0] at this
    exact List.count_eq_zero.1 (by omega)
  have hlen : (cps.eraseIdx o).length = cps.length - 1 := by rw [List.length_eraseIdx, if_pos ho]
  have hcnt : ∀ i : Nat, (whr.map fun n => if (o : Int) < n then n - 1 else n).count (i : Int) = whr.count ((if i < o then i else i + 1 : Nat) : Int) := by
    intro i
    simp only [List.count, List.countP_map]
    apply List.countP_congr
    intro n hn
    have hne : n ≠ (o : Int) := fun e => hno (e ▸ hn)
    simp only [Function.comp_apply, beq_iff_eq]
    split <;> split <;> omega
  refine ⟨⟨?_, ?_, ?_, ?_⟩, ?_, ?_⟩
  · intro m hm
    obtain ⟨n, hn, rfl⟩ := List.mem_map.1 hm
    have := h.rng n hn
    have hne : n ≠ (o : Int) := fun e => hno (e ▸ hn)
    simp only [delSh, hlen]
    split <;> omega
  · intro p hp
    exact h.val p ((List.eraseIdx_sublist cps o).subset hp)
  · intro i hi
    simp only [delSh] at hi ⊢
    rw [hcnt i, List.getElem_eraseIdx]
    split
    · exact h.usr i _
    · exact h.usr (i + 1) _
  · exact ((List.eraseIdx_sublist cps o).map Cp.val).nodup h.nod
  · intro p hp
    simp only [delSh] at hp
    obtain ⟨i, hi, rfl⟩ := List.getElem_of_mem hp
    rw [List.getElem_eraseIdx]
    split
    · exact h1 i _ (by omega)
    · exact h1 (i + 1) _ (by omega)
  · simp only [shView, delSh, List.map_map]
    apply List.map_congr_left
    intro n hn
    have hr := h.rng n hn
    have hne : n ≠ (o : Int) := fun e => hno (e ▸ hn)
    simp only [Function.comp_apply, List.getD_eq_getElem?_getD, List.getElem?_eraseIdx]
    by_cases hlt : (o : Int) < n
    · rw [if_pos hlt, if_neg (by omega)]
      congr 3; omega
    · rw [if_neg hlt, if_pos (by omega)]
theorem putSh_ok {s : Sh} (h : sharedB s = true) {k : Nat} (hk : k < s.whr.length) {v : Int} (hv : 0 ≤ v ∧ v ≤ 255) :
    sharedB (putSh s k v) = true ∧ shView (putSh s k v) = (shView s).set k v := by
  obtain ⟨hl, h2, h3⟩ := sharedB_iff.1 h
  have hr := h2.rng _ (List.getElem_mem hk)
  obtain ⟨o, ho⟩ := Int.eq_ofNat_of_zero_le hr.1
  obtain ⟨a1, a2, a3, a4⟩ := putSh_mid h hk hv ho
  have hg : (s.whr.getD k 0).toNat = o := by simp [hk, ho]
  have hol : o < (lessAt (useL s.cps v) o).length := by rw [lessAt_len]; have := (use_ok h2 hv).le; omega
  unfold putSh
  rw [hg]
  split
  · rename_i h0
    obtain ⟨b1, b2, b3⟩ := delSh_ok a1 hol (by simpa [hol] using h0) a2
    exact ⟨sharedB_iff.2 ⟨by simpa [delSh] using hl, b1, b2⟩, b3.trans a3⟩
  · rename_i h0
    refine ⟨sharedB_iff.2 ⟨by simpa using hl, a1, ?_⟩, a3⟩
    intro p hp
    obtain ⟨i, hi, rfl⟩ := List.getElem_of_mem hp
    by_cases hio : i = o
    · subst hio
      have := a1.usr i hi
      have h0' : (lessAt (useL s.cps v) i)[i].usr ≠ 0 := by simpa [hol] using h0
      simp only at this ⊢; omega
    · exact a2 i hi hio
theorem putSh_count {s : Sh} (h : sharedB s = true) {k : Nat} (hk : k < s.whr.length) {v : Int} (hv : 0 ≤ v ∧ v ≤ 255) : (shareB (shView (putSh s k v))).cps.length = (putSh s k v).cps.length := by
  have h1 := (putSh_ok h hk hv).1
  have hd := shView_disk h1
  obtain ⟨h2, h3⟩ := shareB_valid hd
  exact cps_len_eq h2 h1 h3
/-- one value for all sectors -/
theorem shared_one {s : Sh} (h : sharedB s = true) {v : Int} {n : Nat} (hn : 0 < n) (hv : shView s = List.replicate n v) : s.cps = [⟨v, n⟩] := by
  obtain ⟨_, h2, h3⟩ := sharedB_iff.1 h
  have hm : ∀ x, x ∈ s.cps.map Cp.val ↔ x ∈ [v] := fun x => by rw [cps_view h, hv, List.mem_replicate]; simp; omega
  have hp := (List.perm_ext_iff_of_nodup h2.nod (by simp)).2 hm
  have hl : s.cps.length = 1 := by simpa using hp.length_eq
  obtain ⟨p, hp1⟩ := List.length_eq_one_iff.1 hl
  have hlen : s.whr.length = n := by have := congrArg List.length hv; simpa [shView] using this
  have hu := h2.usr 0 (by omega)
  have hall : s.whr.count (0 : Int) = s.whr.length := by
    rw [List.count_eq_length]
    intro b hb
    have := h2.rng b hb
    omega
  have hpv : p.val = v := by
    have := (hm p.val).1 (by rw [hp1]; simp)
    simpa using this
  rw [hp1]
  simp only [hp1] at hu
  obtain ⟨a, b⟩ := p
  simp at hu hpv
  subst hpv
  have : b = n := by rw [hu]; omega
  rw [this]
theorem view_eq_iff {s : Sh} (h : sharedB s = true) {j k : Nat} (hj : j < s.whr.length) (hk : k < s.whr.length) : ((shView s)[j]'(by simpa [shView] using hj) = (shView s)[k]'(by simpa [shView] using hk)) ↔ s.whr[j] = s.whr[k] := by
  obtain ⟨_, h2, _⟩ := sharedB_iff.1 h
  have r1 := h2.rng _ (List.getElem_mem hj)
  have r2 := h2.rng _ (List.getElem_mem hk)
  simp only [shView, List.getElem_map]
  constructor
  · intro he
    have l1 : s.whr[j].toNat < s.cps.length := by omega
    have l2 : s.whr[k].toNat < s.cps.length := by omega
    have e1 : (s.cps.map Cp.val)[s.whr[j].toNat]'(by simpa using l1) = (s.cps.map Cp.val)[s.whr[k].toNat]'(by simpa using l2) := by simpa [l1, l2] using he
    have := nodup_inj h2.nod _ _ e1
    omega
  · intro he; rw [he]
theorem more_users {s : Sh} (h : sharedB s = true) (h0 : 0 < s.cps.length) : sharedB ⟨s.whr, s.cps.set 0 ⟨s.cps[0].val, s.cps[0].usr + 1⟩⟩ = false := by
  cases hh : sharedB ⟨s.whr, s.cps.set 0 ⟨s.cps[0].val, s.cps[0].usr + 1⟩⟩
  · rfl
  · have a := (sharedB_iff.1 hh).2.1.usr 0 (by simpa using h0)
    have b := (sharedB_iff.1 h).2.1.usr 0 h0
    simp at a b
    omega
end Go.Proofs.Ytpekccmhfkeadaa
