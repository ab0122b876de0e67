/-
  Stacks: what the laws say, in plain Lean. No condition.
-/
import Derived.Test.YtlhbjfjphckifaaBase
import Derived.Test.YtlhbjfjphckifaaNum
import Derived.Test.YtlhbjfjphckifaaInts
import Derived.Test.YtlhbjfjphckifaaApp
import Derived.Test.YtlhbjfjphckifaaIntsW
import Derived.Test.YtlhbjfjphckifaaLib
import Derived.Test.YtlhbjfjphckifaaSpares
import Derived.Test.YtlhbjfjphckifaaOwn
import Derived.Test.YtlhbjfjphckifaaPart
import Derived.Test.YtlhbjfjphckifaaLine
import Derived.Test.YtlhbjfjphckifaaStack
import Derived.Test.YtlhbjfjphckifaaStackM
import Derived.Test.YtlhbjfjphckifaaStackC
import Derived.Test.YtlhbjfjphckifaaStackF
import Derived.Test.YtlhbjfjphckifaaStackS
import Derived.Test.YtlhbjfjphckifaaStackP
import Derived.Test.YtlhbjfjphckifaaStackU
namespace Go.Proofs.Ytlhbjfjphckifaa
open Go.RowKit
theorem mst_pos {t : Stk} (h : stackB t = true) : 1 ≤ t.mst := (cache_iff.1 (stack_true.1 h).2.2).m0
theorem partV_eqs {t t' : Stk} (h : stackB t = true) (h' : stackB t' = true) (hp : t'.prt = t.prt) (hs : seeD t'.dsk t'.lns = seeD t.dsk t.lns) (p : Int) : partV t' p = partV t p := by
  unfold partV; rw [h, h', hp, hs]
theorem sync_is {t : Stk} (h : stackB t = true) : syncS t = ⟨flushD t.dsk t.lns, t.prt, cleanL t.lns, t.mst⟩ := by simp [syncS, h]
theorem crash_is {t : Stk} (h : stackB t = true) : crashS t = ⟨t.dsk, t.prt, [], t.mst⟩ := by simp [crashS, h]
theorem sync_ok {t : Stk} (h : stackB t = true) : stackB (syncS t) = true := by
  obtain ⟨a, b, c⟩ := stack_true.1 h
  have hv := cache_iff.1 c
  rw [sync_is h]
  refine stack_true.2 ⟨disk_flush a (fun y hy => ⟨(hv.rng y hy).2.2.1, (hv.rng y hy).2.2.2⟩), ?_, cache_iff.2 (sync_cv hv)⟩
  simpa [flushD_len] using b
theorem crash_ok {t : Stk} (h : stackB t = true) : stackB (crashS t) = true := by
  obtain ⟨a, b, c⟩ := stack_true.1 h
  have hv := cache_iff.1 c
  rw [crash_is h]
  exact stack_true.2 ⟨a, b, cache_iff.2 ⟨hv.n0, hv.n1, hv.m0, hv.m1, by have := hv.m0; simp; omega, by simp, by simp⟩⟩
theorem sync_view {t : Stk} (h : stackB t = true) (p : Int) : partV (syncS t) p = partV t p := by
  have hv := cache_iff.1 (stack_true.1 h).2.2
  refine partV_eqs h (sync_ok h) (by rw [sync_is h]) ?_ p
  rw [sync_is h]
  exact see_sync hv
theorem syncCrash_view {t : Stk} (h : stackB t = true) (hc : cleanB t.lns t.dsk = true) (p : Int) : partV (crashS (syncS t)) p = partV t p := by
  have hv := cache_iff.1 (stack_true.1 h).2.2
  refine partV_eqs h (crash_ok (sync_ok h)) (by rw [crash_is (sync_ok h), sync_is h]) ?_ p
  rw [crash_is (sync_ok h), sync_is h]
  exact flush_see hv hc
theorem sync_sync {t : Stk} (h : stackB t = true) : syncS (syncS t) = syncS t := by
  rw [sync_is (sync_ok h), sync_is h]
  simp only [flush_clean, cleanL_idem]
theorem crash_view {t : Stk} (h : stackB t = true) {k : Nat} (hk : k < t.prt.length) : partV (crashS t) k = (t.dsk.drop t.prt[k].fst.toNat).take t.prt[k].cnt.toNat := by
  have h2 := crash_ok h
  rw [crash_is h] at h2 ⊢
  have : inB (k : Int) 0 (t.prt.length - 1) = true := inB_true.2 (by omega)
  simp [partV, h2, this, hk, seeD]
theorem prt_bd {t : Stk} (h : stackB t = true) {k : Nat} (hk : k < t.prt.length) : 0 ≤ t.prt[k].fst ∧ 1 ≤ t.prt[k].cnt ∧ t.prt[k].fst + t.prt[k].cnt ≤ t.dsk.length := by
  have hp := (parts_true.1 (stack_true.1 h).2.1).2.2
  have := partsGo_get (Int.le_refl 0) hp k hk
  exact ⟨this.1, this.2.2.1, this.2.2.2⟩
theorem partV_is {t : Stk} (h : stackB t = true) {k : Nat} (hk : k < t.prt.length) : partV t k = ((seeD t.dsk t.lns).drop t.prt[k].fst.toNat).take t.prt[k].cnt.toNat := by
  have : inB (k : Int) 0 (t.prt.length - 1) = true := inB_true.2 (by omega)
  simp [partV, h, this, hk]
theorem partV_len {t : Stk} (h : stackB t = true) {k : Nat} (hk : k < t.prt.length) : ((partV t k).length : Int) = t.prt[k].cnt := by
  obtain ⟨a, b, c⟩ := prt_bd h hk
  rw [partV_is h hk, List.length_take, List.length_drop, seeD_len]
  omega
theorem partV_at {t : Stk} (h : stackB t = true) {k : Nat} (hk : k < t.prt.length) {i : Nat} (hi : i < (partV t k).length) : (seeD t.dsk t.lns)[(t.prt[k].fst + (i : Int)).toNat]? = some (partV t k)[i] := by
  obtain ⟨a, b, c⟩ := prt_bd h hk
  have hl := partV_len h hk
  have hl2 := seeD_len t.dsk t.lns
  have e : (t.prt[k].fst + (i : Int)).toNat = t.prt[k].fst.toNat + i := by omega
  rw [e, List.getElem?_eq_getElem (by omega)]
  congr 1
  simp only [partV_is h hk, List.getElem_take, List.getElem_drop]
theorem partV_some {t : Stk} {p : Int} (h : 0 < (partV t p).length) : stackB t = true ∧ ∃ k : Nat, p = k ∧ k < t.prt.length := by
  unfold partV at h
  split at h
  · rename_i hb
    rw [Bool.and_eq_true] at hb
    obtain ⟨h1, h2⟩ := hb
    obtain ⟨a, b⟩ := inB_true.1 h2
    obtain ⟨k, rfl⟩ := Int.eq_ofNat_of_zero_le a
    exact ⟨h1, k, rfl, by omega⟩
  · simp at h
theorem place_of {t : Stk} (h : stackB t = true) {k : Nat} (hk : k < t.prt.length) {a : Int} (h0 : 0 ≤ a) (h1 : a < t.prt[k].cnt) : placeB t k a = t.prt[k].fst + a := by
  rw [place_yes h]
  exact toDisk_yes (stack_true.1 h).2.1 hk (inB_true.2 (by omega))
theorem view_read {t : Stk} (h : stackB t = true) {k : Nat} (hk : k < t.prt.length) {i : Nat} (hi : i < (partV t k).length) : readV t k i = (partV t k)[i] ∧ 0 ≤ (partV t k)[i] ∧ (partV t k)[i] ≤ 255 := by
  obtain ⟨a, b, c⟩ := prt_bd h hk
  have hl := partV_len h hk
  have hp := place_of h hk (a := i) (by omega) (by omega)
  have hq := lineFor_facts h (q := t.prt[k].fst + (i : Int)) (by omega) (by omega)
  have e := partV_at h hk hi
  rw [hq.2.2.1] at e
  injection e with e
  have hr : readV t k i = (lineFor t.lns t.dsk (t.prt[k].fst + (i : Int))).val := by
    unfold readV
    rw [hp, if_neg (by omega)]
  rw [hr, e]
  exact ⟨rfl, by rw [← e]; exact hq.2.1.1, by rw [← e]; exact hq.2.1.2⟩
/-- what a stack after putting a line first shows -/
theorem used_view {t : Stk} {x : Ln} (h : stackB t = true) (hc : cleanB t.lns t.dsk = true) (h0 : 0 ≤ x.at_) (h1 : x.at_ < t.dsk.length) (h2 : 0 ≤ x.val ∧ x.val ≤ 255) (hx : x.drt = false → t.dsk[x.at_.toNat]? = some x.val) {k : Nat} (hk : k < t.prt.length) :
    partV (usedS t x) k = (((seeD t.dsk t.lns).set x.at_.toNat x.val).drop t.prt[k].fst.toNat).take t.prt[k].cnt.toNat := by
  have hv := used_valid h h0 h1 h2
  have e := (used_see h hc h0 h1 hx).1
  rw [partV_is hv (k := k) hk]
  rw [e]
  rfl
theorem read_pos {t : Stk} {p a : Int} (h : ¬ readV t p a < 0) : stackB t = true ∧ ∃ k i : Nat, p = k ∧ a = i ∧ k < t.prt.length ∧ ∃ hi : i < (partV t k).length, (partV t k)[i] = readV t p a := by
  have hpl : 0 ≤ placeB t p a := by
    by_cases h1 : placeB t p a < 0
    · exfalso; apply h; unfold readV; rw [if_pos h1]; omega
    · omega
  rcases place_cases t p a with h1 | ⟨hs, h1, h2, k, hk, rfl, a0, a1, he⟩
  · omega
  · obtain ⟨i, rfl⟩ := Int.eq_ofNat_of_zero_le a0
    have hl := partV_len hs hk
    have hi : i < (partV t k).length := by omega
    exact ⟨hs, k, i, rfl, rfl, hk, hi, (view_read hs hk hi).1.symm⟩
theorem read_neg (t : Stk) (p a : Int) (h : readV t p a < 0) : readV t p a = -1 := by
  by_cases h1 : placeB t p a < 0
  · unfold readV; rw [if_pos h1]
  · exfalso
    rcases place_cases t p a with h2 | ⟨hs, h2, h3, _⟩
    · omega
    · have := (lineFor_facts hs h2 h3).2.1.1
      unfold readV at h; rw [if_neg h1] at h; omega
theorem read_valid {t : Stk} {p a : Int} (h : ¬ readV t p a < 0) : stackB (readS t p a) = true ∧ (cleanB t.lns t.dsk = true → ∀ k : Nat, k < t.prt.length → partV (readS t p a) k = partV t k) := by
  have hpl : 0 ≤ placeB t p a := by
    by_cases h1 : placeB t p a < 0
    · exfalso; apply h; unfold readV; rw [if_pos h1]; omega
    · omega
  rcases place_cases t p a with h1 | ⟨hs, h1, h2, _⟩
  · omega
  · have hq := lineFor_facts hs h1 h2
    have e : readS t p a = usedS t (lineFor t.lns t.dsk (placeB t p a)) := by unfold readS; rw [if_neg (by omega)]
    rw [e]
    obtain ⟨q1, q2, q3, q4⟩ := hq
    refine ⟨used_valid hs (by rw [q1]; exact h1) (by rw [q1]; exact h2) q2, fun hc k hk => ?_⟩
    rw [used_view hs hc (by rw [q1]; exact h1) (by rw [q1]; exact h2) q2 (by rw [q1]; exact q4 hc) hk, partV_is hs hk, q1]
    congr 2
    apply List.ext_getElem?
    intro i
    rw [List.getElem?_set]
    split
    · rename_i hi
      subst hi
      rw [if_pos (by rw [seeD_len]; omega), q3]
    · rfl
theorem write_bad {t : Stk} {p a v : Int} (h : writeOk t p a v = false) : writeS t p a v = zeroStk := by simp [writeS, h]
theorem write_good {t : Stk} {p a v : Int} (h : writeOk t p a v = true) : stackB t = true ∧ (0 ≤ v ∧ v ≤ 255) ∧ ∃ k i : Nat, ∃ hk : k < t.prt.length, p = k ∧ a = i ∧ i < (partV t k).length ∧ placeB t p a = t.prt[k].fst + i ∧ writeS t p a v = usedS t ⟨placeB t p a, v, true⟩ := by
  have h' := h
  unfold writeOk at h'
  rw [Bool.and_eq_true, decide_eq_true_eq] at h'
  obtain ⟨h1, h2⟩ := h'
  rcases place_cases t p a with h3 | ⟨hs, h3, h4, k, hk, rfl, a0, a1, he⟩
  · omega
  · obtain ⟨i, rfl⟩ := Int.eq_ofNat_of_zero_le a0
    have hl := partV_len hs hk
    exact ⟨hs, inB_true.1 h2, k, i, hk, rfl, rfl, by omega, he, by simp [writeS, h]⟩
theorem apart_get {d : List Int} {q f c : Nat} {v : Int} (h : q < f ∨ f + c ≤ q) : ((d.set q v).drop f).take c = (d.drop f).take c := by
  apply List.ext_getElem?
  intro i
  rw [List.getElem?_take, List.getElem?_take]
  split
  · rw [List.getElem?_drop, List.getElem?_drop, List.getElem?_set_ne (by omega)]
  · rfl
theorem in_get {d : List Int} {f c i : Nat} {v : Int} (h : i < c) : ((d.set (f + i) v).drop f).take c = ((d.drop f).take c).set i v := by
  apply List.ext_getElem?
  intro j
  rw [List.getElem?_take, List.getElem?_set, List.getElem?_take, List.getElem?_drop, List.getElem?_drop, List.getElem?_set]
  by_cases hj : j < c
  · rw [if_pos hj, if_pos hj]
    by_cases he : i = j
    · subst he
      rw [if_pos rfl, if_pos rfl]
      simp only [List.length_take, List.length_drop]
      by_cases hl : f + i < d.length
      · rw [if_pos hl, if_pos (by omega)]
      · rw [if_neg hl, if_neg (by omega)]
    · rw [if_neg (by omega), if_neg he]
  · rw [if_neg hj, if_neg hj, if_neg (by omega)]
theorem write_view {t : Stk} {p a v : Int} (h : writeOk t p a v = true) : stackB (writeS t p a v) = true ∧ (writeS t p a v).prt = t.prt ∧ (writeS t p a v).dsk.length = t.dsk.length ∧
    (cleanB t.lns t.dsk = true → cleanB (writeS t p a v).lns (writeS t p a v).dsk = true ∧ ∀ q : Nat, q < t.prt.length → partV (writeS t p a v) q = if p = q then (partV t q).set a.toNat v else partV t q) := by
  obtain ⟨hs, hv, k, i, hk, rfl, rfl, hi, he, e⟩ := write_good h
  have hl := partV_len hs hk
  obtain ⟨b1, b2, b3⟩ := prt_bd hs hk
  rw [e, he]
  refine ⟨used_valid hs (by simp only; omega) (by simp only; omega) hv, rfl, by simp [usedS, cutD_len], fun hc => ⟨(used_see hs hc (by simp only; omega) (by simp only; omega) (fun hf => by cases hf)).2, fun q hq => ?_⟩⟩
  rw [used_view hs hc (by simp only; omega) (by simp only; omega) hv (fun hf => by cases hf) hq, partV_is hs hq]
  have hto : (t.prt[k].fst + (i : Int)).toNat = t.prt[k].fst.toNat + i := by omega
  simp only [hto]
  by_cases hkq : k = q
  · subst hkq
    rw [if_pos rfl, in_get (by omega)]
    simp
  · rw [if_neg (by omega)]
    have hpg := (parts_true.1 (stack_true.1 hs).2.1).2.2
    obtain ⟨c1, c2, c3⟩ := prt_bd hs hq
    refine apart_get ?_
    rcases Nat.lt_or_gt_of_ne hkq with h1 | h1
    · have := partsGo_apart (Int.le_refl 0) hpg k q hk hq h1
      omega
    · have := partsGo_apart (Int.le_refl 0) hpg q k hq hk h1
      omega
theorem write_read {t : Stk} {p a v : Int} (h : writeOk t p a v = true) : readV (writeS t p a v) p a = v := by
  obtain ⟨hs, hv, k, i, hk, rfl, rfl, hi, he, e⟩ := write_good h
  obtain ⟨w1, w2, w3, _⟩ := write_view h
  have hl := partV_len hs hk
  obtain ⟨b1, b2, b3⟩ := prt_bd hs hk
  have hk' : k < (writeS t k i v).prt.length := by rw [w2]; exact hk
  have hc2 : (writeS t k i v).prt[k] = t.prt[k] := by simp only [w2]
  have hp := place_of w1 hk' (a := i) (by omega) (by rw [hc2]; omega)
  have hq : (lineFor (writeS t k i v).lns (writeS t k i v).dsk (t.prt[k].fst + (i : Int))).val = v := by
    have hm : 1 ≤ t.mst := mst_pos hs
    have hcut : ∃ r, (writeS t k i v).lns = ⟨t.prt[k].fst + (i : Int), v, true⟩ :: r := by
      rw [e, he]
      simp only [usedS]
      unfold cutL lruL
      split
      · obtain ⟨n, hn⟩ : ∃ n, t.mst.toNat = n + 1 := ⟨t.mst.toNat - 1, by omega⟩
        rw [hn, List.take_succ_cons]
        exact ⟨_, rfl⟩
      · exact ⟨_, rfl⟩
    obtain ⟨r, hr⟩ := hcut
    have hidx : idx (((writeS t k i v).lns).map Ln.at_) (t.prt[k].fst + (i : Int)) = ((0 : Nat) : Int) := by
      rw [hr]
      exact idx_at (k := 0) (by simp) (by simp) (fun j hj => by omega)
    unfold lineFor
    rw [hidx, hr]
    simp
  unfold readV
  rw [hp, hc2, if_neg (by omega), hq]
theorem write_dsk0 {t : Stk} {p a v : Int} (h : 0 < (writeS t p a v).dsk.length) : writeOk t p a v = true := by
  cases hw : writeOk t p a v
  · rw [write_bad hw] at h; simp [zeroStk] at h
  · rfl
theorem write_dsk1 {t : Stk} {p a v : Int} (h : writeOk t p a v = true) : 0 < (writeS t p a v).dsk.length := by
  obtain ⟨hs, hv, k, i, hk, rfl, rfl, hi, he, e⟩ := write_good h
  obtain ⟨b1, b2, b3⟩ := prt_bd hs hk
  rw [(write_view h).2.2.1]; omega
/-- a stack with an empty cache -/
theorem lost_is {t : Stk} {p a v : Int} (hl : t.lns = []) (h : writeOk t p a v = true) : crashS (writeS t p a v) = t ∧ cleanB (writeS t p a v).lns (writeS t p a v).dsk = true := by
  obtain ⟨hs, hv, k, i, hk, rfl, rfl, hi, he, e⟩ := write_good h
  have hm := mst_pos hs
  have hw : writeS t k i v = ⟨t.dsk, t.prt, [⟨placeB t k i, v, true⟩], t.mst⟩ := by
    rw [e]
    simp only [usedS, lruL, hl, List.filter_nil, cutD, cutL, List.length_singleton]
    rw [if_neg (by omega), if_neg (by omega)]
  rw [crash_is (write_view h).1, hw]
  refine ⟨?_, by simp [cleanB, cleanAt]⟩
  obtain ⟨d, pr, ln, ms⟩ := t
  simp only at hl ⊢
  rw [hl]
end Go.Proofs.Ytlhbjfjphckifaa
