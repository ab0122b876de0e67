/-
  Stacks: what their functions give, in plain Lean. No condition.
-/
import Derived.Test.YtlhbjfjphckifaaBase
import Derived.Test.YtlhbjfjphckifaaNum
import Derived.Test.YtlhbjfjphckifaaInts
import Derived.Test.YtlhbjfjphckifaaApp
import Derived.Test.YtlhbjfjphckifaaIntsW
import Derived.Test.YtlhbjfjphckifaaLib
import Derived.Test.YtlhbjfjphckifaaSpares
import Derived.Test.YtlhbjfjphckifaaOwn
import Derived.Test.YtlhbjfjphckifaaPart
import Derived.Test.YtlhbjfjphckifaaLine
import Derived.Test.YtlhbjfjphckifaaStack
namespace Go.Proofs.Ytlhbjfjphckifaa
open Go.RowKit
def partAt (e n : Int) (p : Pt) : Bool := decide (e ≤ p.fst) && decide (1 ≤ p.cnt) && decide (p.fst + p.cnt ≤ n)
def partsGo : List Pt → Int → Int → Bool
  | [], _, _ => true
  | p :: r, e, n => partAt e n p && partsGo r (p.fst + p.cnt) n
def partsB (l : List Pt) (n : Int) : Bool := decide (l.length ≤ 8) && inB n 0 100000 && partsGo l 0 n
theorem partsGo_at {l : List Pt} {k : Nat} (hk : k < l.length) (e n : Int) : partsGo (l.drop k) e n = (partAt e n l[k] && partsGo (l.drop (k + 1)) (l[k].fst + l[k].cnt) n) := by
  rw [List.drop_eq_getElem_cons hk]; rfl
theorem partAt_no1 {e n : Int} {p : Pt} (h : p.fst < e) : partAt e n p = false := by
  have : decide (e ≤ p.fst) = false := by rw [decide_eq_false_iff_not]; omega
  simp [partAt, this]
theorem partAt_no2 {e n : Int} {p : Pt} (h : p.cnt < 1) : partAt e n p = false := by
  have : decide (1 ≤ p.cnt) = false := by rw [decide_eq_false_iff_not]; omega
  simp [partAt, this]
theorem partAt_impl {e n : Int} {p : Pt} (h0 : 0 ≤ e) (h1 : e ≤ p.fst) (h2 : 1 ≤ p.cnt) : (inB p.fst 0 n && inB p.cnt 0 (n - p.fst)) = partAt e n p := by
  rw [Bool.eq_iff_iff]
  simp only [partAt, Bool.and_eq_true, inB_true, decide_eq_true_eq]
  omega
theorem partAt_spec {e n : Int} {p : Pt} : (inB p.fst e (n - 1) && inB p.cnt 1 (n - p.fst)) = partAt e n p := by
  rw [Bool.eq_iff_iff]
  simp only [partAt, Bool.and_eq_true, inB_true, decide_eq_true_eq]
  omega
theorem partAt_true {e n : Int} {p : Pt} : partAt e n p = true ↔ e ≤ p.fst ∧ 1 ≤ p.cnt ∧ p.fst + p.cnt ≤ n := by
  simp only [partAt, Bool.and_eq_true, decide_eq_true_eq]; omega
theorem parts_no1 {l : List Pt} {n : Int} (h : ¬ l.length ≤ 8) : partsB l n = false := by simp [partsB, h]
theorem parts_no2 {l : List Pt} {n : Int} (h : inB n 0 100000 = false) : partsB l n = false := by simp [partsB, h]
theorem parts_no3 {l : List Pt} {n : Int} (h : partsGo l 0 n = false) : partsB l n = false := by simp [partsB, h]
theorem parts_yes {l : List Pt} {n : Int} (h1 : l.length ≤ 8) (h2 : inB n 0 100000 = true) (h3 : partsGo l 0 n = true) : partsB l n = true := by simp [partsB, h1, h2, h3]
theorem parts_true {l : List Pt} {n : Int} : partsB l n = true ↔ l.length ≤ 8 ∧ inB n 0 100000 = true ∧ partsGo l 0 n = true := by simp [partsB, and_assoc]
/-- each partition of a valid list lies on the disk, and behind those before it -/
theorem partsGo_get {l : List Pt} {e n : Int} (h0 : 0 ≤ e) (h : partsGo l e n = true) : ∀ k (hk : k < l.length), 0 ≤ l[k].fst ∧ e ≤ l[k].fst ∧ 1 ≤ l[k].cnt ∧ l[k].fst + l[k].cnt ≤ n := by
  induction l generalizing e with
  | nil => intro k hk; simp at hk
  | cons p r ih =>
    simp only [partsGo, Bool.and_eq_true] at h
    obtain ⟨h1, h2⟩ := h
    obtain ⟨a, b, c⟩ := partAt_true.1 h1
    intro k hk
    cases k with
    | zero => simp only [List.getElem_cons_zero]; omega
    | succ k =>
      have := ih (e := p.fst + p.cnt) (by omega) h2 k (by simpa using hk)
      simp only [List.getElem_cons_succ]
      omega
theorem partsGo_apart {l : List Pt} {e n : Int} (h0 : 0 ≤ e) (h : partsGo l e n = true) : ∀ j k (hj : j < l.length) (hk : k < l.length), j < k → l[j].fst + l[j].cnt ≤ l[k].fst := by
  induction l generalizing e with
  | nil => intro j k hj; simp at hj
  | cons p r ih =>
    simp only [partsGo, Bool.and_eq_true] at h
    obtain ⟨h1, h2⟩ := h
    obtain ⟨a, b, c⟩ := partAt_true.1 h1
    intro j k hj hk hjk
    cases k with
    | zero => omega
    | succ k =>
      cases j with
      | zero =>
        have := (partsGo_get (e := p.fst + p.cnt) (by omega) h2 k (by simpa using hk)).2.1
        simpa using this
      | succ j => simpa using ih (e := p.fst + p.cnt) (by omega) h2 j k (by simpa using hj) (by simpa using hk) (by omega)
def lnOk (n : Int) (l : List Ln) (k : Nat) : Bool := inB (l.getD k default).at_ 0 (n - 1) && inB (l.getD k default).val 0 255 && !decide ((l.getD k default).at_ ∈ (l.take k).map Ln.at_)
def cacheB (l : List Ln) (m n : Int) : Bool := inB n 0 64 && inB m 1 8 && decide ((l.length : Int) ≤ m) && allK l.length (lnOk n l)
theorem lnOk_get {n : Int} {l : List Ln} {k : Nat} (hk : k < l.length) : lnOk n l k = (inB l[k].at_ 0 (n - 1) && inB l[k].val 0 255 && !decide (l[k].at_ ∈ (l.take k).map Ln.at_)) := by simp [lnOk, hk]
theorem cache_no1 {l : List Ln} {m n : Int} (h : inB n 0 64 = false) : cacheB l m n = false := by simp [cacheB, h]
theorem cache_no2 {l : List Ln} {m n : Int} (h : inB m 1 8 = false) : cacheB l m n = false := by simp [cacheB, h]
theorem cache_no3 {l : List Ln} {m n : Int} (h : ¬ (l.length : Int) ≤ m) : cacheB l m n = false := by simp [cacheB, h]
theorem cache_no4 {l : List Ln} {m n : Int} {k : Nat} (hk : k < l.length) (h : lnOk n l k = false) : cacheB l m n = false := by simp [cacheB, allK_no hk h]
theorem cache_yes {l : List Ln} {m n : Int} (h1 : inB n 0 64 = true) (h2 : inB m 1 8 = true) (h3 : (l.length : Int) ≤ m) (h4 : allK l.length (lnOk n l) = true) : cacheB l m n = true := by simp [cacheB, h1, h2, h3, h4]
theorem cache_true {l : List Ln} {m n : Int} : cacheB l m n = true ↔ inB n 0 64 = true ∧ inB m 1 8 = true ∧ (l.length : Int) ≤ m ∧ allK l.length (lnOk n l) = true := by simp [cacheB, and_assoc]
/-- the plain meaning of a valid cache -/
structure CV (l : List Ln) (m n : Int) : Prop where
  n0 : 0 ≤ n
  n1 : n ≤ 64
  m0 : 1 ≤ m
  m1 : m ≤ 8
  len : (l.length : Int) ≤ m
  rng : ∀ y ∈ l, 0 ≤ y.at_ ∧ y.at_ < n ∧ 0 ≤ y.val ∧ y.val ≤ 255
  nod : (l.map Ln.at_).Nodup
theorem nodup_takeS {l : List Int} : l.Nodup ↔ ∀ k (h : k < l.length), l[k] ∉ l.take k := by
  rw [List.nodup_iff_pairwise_ne, List.pairwise_iff_getElem]
  constructor
  · intro h k hk hm
    obtain ⟨j, hj, he⟩ := List.getElem_of_mem hm
    rw [List.getElem_take] at he
    exact h j k (by simp at hj; omega) hk (by simp at hj; omega) he
  · intro h i j hi hj hij he
    exact h j hj (List.mem_take_iff_getElem.2 ⟨i, by omega, he⟩)
theorem cache_iff {l : List Ln} {m n : Int} : cacheB l m n = true ↔ CV l m n := by
  rw [cache_true, inB_true, inB_true, allK_iff]
  constructor
  · rintro ⟨⟨a, b⟩, ⟨c, d⟩, e, f⟩
    refine ⟨a, b, c, d, e, ?_, ?_⟩
    · intro y hy
      obtain ⟨k, hk, rfl⟩ := List.getElem_of_mem hy
      have := f k hk
      rw [lnOk_get hk] at this
      simp only [Bool.and_eq_true, inB_true] at this
      omega
    · rw [nodup_takeS]
      intro k hk
      have hk' : k < l.length := by simpa using hk
      have := f k hk'
      rw [lnOk_get hk'] at this
      simp only [Bool.and_eq_true, Bool.not_eq_true', decide_eq_false_iff_not] at this
      simpa [List.map_take] using this.2
  · rintro ⟨a, b, c, d, e, f, g⟩
    refine ⟨⟨a, b⟩, ⟨c, d⟩, e, fun k hk => ?_⟩
    rw [lnOk_get hk]
    have h1 := f _ (List.getElem_mem hk)
    have h2 := nodup_takeS.1 g k (by simpa using hk)
    simp only [Bool.and_eq_true, inB_true, Bool.not_eq_true', decide_eq_false_iff_not]
    refine ⟨⟨by omega, by omega⟩, ?_⟩
    simpa [List.map_take] using h2
def stackB (t : Stk) : Bool := diskB t.dsk && partsB t.prt t.dsk.length && cacheB t.lns t.mst t.dsk.length
theorem stack_no1 {t : Stk} (h : diskB t.dsk = false) : stackB t = false := by simp [stackB, h]
theorem stack_no2 {t : Stk} (h : partsB t.prt t.dsk.length = false) : stackB t = false := by simp [stackB, h]
theorem stack_no3 {t : Stk} (h : cacheB t.lns t.mst t.dsk.length = false) : stackB t = false := by simp [stackB, h]
theorem stack_true {t : Stk} : stackB t = true ↔ diskB t.dsk = true ∧ partsB t.prt t.dsk.length = true ∧ cacheB t.lns t.mst t.dsk.length = true := by simp [stackB, and_assoc]
def zeroStk : Stk := ⟨[], [], [], 0⟩
/-- a line becomes the first one -/
def lruL (l : List Ln) (x : Ln) : List Ln := x :: l.filter (fun y => !(y.at_ == x.at_))
def cutL (l : List Ln) (m : Int) : List Ln := if m < l.length then l.take m.toNat else l
def cutD (d : List Int) (l : List Ln) (m : Int) : List Int := if m < l.length then (if (l.getD m.toNat default).drt then d.set (l.getD m.toNat default).at_.toNat (l.getD m.toNat default).val else d) else d
def wb (d : List Int) (y : Ln) : List Int := if y.drt then d.set y.at_.toNat y.val else d
def flushD (d : List Int) (l : List Ln) : List Int := l.foldl wb d
def cleanL (l : List Ln) : List Ln := l.map fun y => ⟨y.at_, y.val, false⟩
def seeD (d : List Int) (l : List Ln) : List Int := l.foldl (fun d y => d.set y.at_.toNat y.val) d
theorem wb_len (d : List Int) (y : Ln) : (wb d y).length = d.length := by unfold wb; split <;> simp
theorem flushD_len (d : List Int) (l : List Ln) : (flushD d l).length = d.length := by
  unfold flushD
  induction l generalizing d with
  | nil => rfl
  | cons y r ih => rw [List.foldl_cons, ih, wb_len]
theorem seeD_len (d : List Int) (l : List Ln) : (seeD d l).length = d.length := by
  unfold seeD
  induction l generalizing d with
  | nil => rfl
  | cons y r ih => rw [List.foldl_cons, ih]; simp
theorem flushD_succ (d : List Int) {l : List Ln} {k : Nat} (hk : k < l.length) : flushD d (l.take (k + 1)) = wb (flushD d (l.take k)) l[k] := by
  unfold flushD; rw [List.take_succ_eq_append_getElem hk, List.foldl_append]; rfl
theorem seeD_succ (d : List Int) {l : List Ln} {k : Nat} (hk : k < l.length) : seeD d (l.take (k + 1)) = (seeD d (l.take k)).set l[k].at_.toNat l[k].val := by
  unfold seeD; rw [List.take_succ_eq_append_getElem hk, List.foldl_append]; rfl
theorem flushD_all (d : List Int) {l : List Ln} {k : Nat} (hk : l.length ≤ k) : flushD d (l.take k) = flushD d l := by rw [List.take_of_length_le hk]
theorem seeD_all (d : List Int) {l : List Ln} {k : Nat} (hk : l.length ≤ k) : seeD d (l.take k) = seeD d l := by rw [List.take_of_length_le hk]
theorem cutL_len (l : List Ln) (m : Int) : (cutL l m).length ≤ l.length := by unfold cutL; split <;> simp; omega
theorem cutD_len (d : List Int) (l : List Ln) (m : Int) : (cutD d l m).length = d.length := by
  unfold cutD; split
  · split <;> simp
  · rfl
theorem lruL_len (l : List Ln) (x : Ln) : (lruL l x).length ≤ l.length + 1 := by
  unfold lruL; have := List.length_filter_le (fun y => !(y.at_ == x.at_)) l; simp only [List.length_cons]; omega
/-- the place of a sector of a partition, or -1 -/
def toDiskB (l : List Pt) (n p a : Int) : Int := if partsB l n && inB p 0 (l.length - 1) && inB a 0 ((l.getD p.toNat default).cnt - 1) then (l.getD p.toNat default).fst + a else -1
def placeB (t : Stk) (p a : Int) : Int := if stackB t then toDiskB t.prt t.dsk.length p a else -1
theorem toDisk_no1 {l : List Pt} {n p a : Int} (h : partsB l n = false) : toDiskB l n p a = -1 := by simp [toDiskB, h]
theorem toDisk_no2 {l : List Pt} {n p a : Int} (h : inB p 0 (l.length - 1) = false) : toDiskB l n p a = -1 := by simp [toDiskB, h]
theorem toDisk_no3 {l : List Pt} {n : Int} {p : Nat} {a : Int} (hp : p < l.length) (h : inB a 0 (l[p].cnt - 1) = false) : toDiskB l n p a = -1 := by simp [toDiskB, h, hp]
theorem toDisk_yes {l : List Pt} {n : Int} {p : Nat} {a : Int} (h1 : partsB l n = true) (hp : p < l.length) (h : inB a 0 (l[p].cnt - 1) = true) : toDiskB l n p a = l[p].fst + a := by
  have h2 : inB (p : Int) 0 (l.length - 1) = true := inB_true.2 (by omega)
  simp [toDiskB, h1, h2, h, hp]
theorem place_no {t : Stk} {p a : Int} (h : stackB t = false) : placeB t p a = -1 := by simp [placeB, h]
theorem place_yes {t : Stk} {p a : Int} (h : stackB t = true) : placeB t p a = toDiskB t.prt t.dsk.length p a := by simp [placeB, h]
theorem toDisk_cases (l : List Pt) (n p a : Int) : toDiskB l n p a = -1 ∨ (0 ≤ toDiskB l n p a ∧ toDiskB l n p a < n ∧ partsB l n = true ∧ ∃ (j : Nat) (h : j < l.length), p = j ∧ 0 ≤ a ∧ a < l[j].cnt ∧ toDiskB l n p a = l[j].fst + a) := by
  cases h1 : partsB l n
  · left; simp [toDiskB, h1]
  · cases h2 : inB p 0 (l.length - 1)
    · left; simp [toDiskB, h2]
    · obtain ⟨a1, a2⟩ := inB_true.1 h2
      obtain ⟨j, rfl⟩ := Int.eq_ofNat_of_zero_le a1
      have hj : j < l.length := by omega
      cases h3 : inB a 0 (l[j].cnt - 1)
      · left; exact toDisk_no3 hj h3
      · right
        obtain ⟨b1, b2⟩ := inB_true.1 h3
        have e := toDisk_yes h1 hj h3
        obtain ⟨p1, p2, p3⟩ := parts_true.1 h1
        have := partsGo_get (Int.le_refl 0) p3 j hj
        exact ⟨by omega, by omega, rfl, j, hj, rfl, b1, by omega, e⟩
theorem place_cases (t : Stk) (p a : Int) : placeB t p a = -1 ∨ (stackB t = true ∧ 0 ≤ placeB t p a ∧ placeB t p a < t.dsk.length ∧ ∃ (j : Nat) (h : j < t.prt.length), p = j ∧ 0 ≤ a ∧ a < t.prt[j].cnt ∧ placeB t p a = t.prt[j].fst + a) := by
  cases h : stackB t
  · left; exact place_no h
  · rw [place_yes h]
    rcases toDisk_cases t.prt t.dsk.length p a with h1 | ⟨h1, h2, h3, h4⟩
    · exact .inl h1
    · exact .inr ⟨rfl, h1, h2, h4⟩
/-- the line of a sector, or one with the disk's value -/
def lineFor (l : List Ln) (d : List Int) (q : Int) : Ln := if 0 ≤ idx (l.map Ln.at_) q then l.getD (idx (l.map Ln.at_) q).toNat default else ⟨q, d.getD q.toNat 0, false⟩
def usedS (t : Stk) (x : Ln) : Stk := ⟨cutD t.dsk (lruL t.lns x) t.mst, t.prt, cutL (lruL t.lns x) t.mst, t.mst⟩
def readS (t : Stk) (p a : Int) : Stk := if placeB t p a < 0 then zeroStk else usedS t (lineFor t.lns t.dsk (placeB t p a))
def readV (t : Stk) (p a : Int) : Int := if placeB t p a < 0 then -1 else (lineFor t.lns t.dsk (placeB t p a)).val
def writeOk (t : Stk) (p a v : Int) : Bool := decide (0 ≤ placeB t p a) && inB v 0 255
def writeS (t : Stk) (p a v : Int) : Stk := if writeOk t p a v then usedS t ⟨placeB t p a, v, true⟩ else zeroStk
def syncS (t : Stk) : Stk := if stackB t then ⟨flushD t.dsk t.lns, t.prt, cleanL t.lns, t.mst⟩ else zeroStk
def crashS (t : Stk) : Stk := if stackB t then ⟨t.dsk, t.prt, [], t.mst⟩ else zeroStk
def partV (t : Stk) (p : Int) : List Int := if stackB t && inB p 0 (t.prt.length - 1) then ((seeD t.dsk t.lns).drop (t.prt.getD p.toNat default).fst.toNat).take (t.prt.getD p.toNat default).cnt.toNat else []
theorem usedS_size (t : Stk) (x : Ln) : sizeStack (usedS t x) ≤ sizeStack t + 1 := by
  unfold usedS sizeStack
  have h1 := cutL_len (lruL t.lns x) t.mst
  have h2 := lruL_len t.lns x
  simp only [cutD_len]
  omega
theorem readS_size (t : Stk) (p a : Int) : sizeStack (readS t p a) ≤ sizeStack t + 1 := by
  unfold readS; split
  · simp [sizeStack, zeroStk]
  · exact usedS_size _ _
theorem writeS_size (t : Stk) (p a v : Int) : sizeStack (writeS t p a v) ≤ sizeStack t + 1 := by
  unfold writeS; split
  · exact usedS_size _ _
  · simp [sizeStack, zeroStk]
theorem syncS_size (t : Stk) : sizeStack (syncS t) ≤ sizeStack t + 1 := by
  unfold syncS; split
  · simp [sizeStack, flushD_len, cleanL]
  · simp [sizeStack, zeroStk]
theorem crashS_size (t : Stk) : sizeStack (crashS t) ≤ sizeStack t + 1 := by
  unfold crashS; split
  · simp [sizeStack]; omega
  · simp [sizeStack, zeroStk]
theorem partV_size (t : Stk) (p : Int) : (partV t p).length ≤ sizeStack t + 1 := by
  unfold partV; split
  · simp [sizeStack, seeD_len]; omega
  · simp
end Go.Proofs.Ytlhbjfjphckifaa
