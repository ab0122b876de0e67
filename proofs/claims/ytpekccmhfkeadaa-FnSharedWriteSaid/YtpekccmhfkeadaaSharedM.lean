/-
  Shared volumes: the plain mathematics. No condition.
-/
import Derived.Test.YtpekccmhfkeadaaBase
import Derived.Test.YtpekccmhfkeadaaNum
import Derived.Test.YtpekccmhfkeadaaInts
import Derived.Test.YtpekccmhfkeadaaApp
import Derived.Test.YtpekccmhfkeadaaIntsW
import Derived.Test.YtpekccmhfkeadaaLib
import Derived.Test.YtpekccmhfkeadaaSpares
import Derived.Test.YtpekccmhfkeadaaOwn
import Derived.Test.YtpekccmhfkeadaaCopy
import Derived.Test.YtpekccmhfkeadaaShared
namespace Go.Proofs.Ytpekccmhfkeadaa
open Go.RowKit
/-- how many of the first k sectors have number i -/
def usersTo (l : List Int) (k i : Nat) : Nat := (l.take k).count (i : Int)
def countsTo (l : List Int) (m k : Nat) : List Int := (List.range m).map fun i => (usersTo l k i : Int)
def shOkAt (s : Sh) (k : Nat) : Bool := inB (s.cps.getD k default).val 0 255 && ((s.cps.getD k default).usr == (s.whr.count (k : Int) : Nat)) && decide (1 ≤ (s.cps.getD k default).usr) && !decide ((s.cps.getD k default).val ∈ (s.cps.take k).map Cp.val)
def sharedB (s : Sh) : Bool := decide (s.whr.length ≤ 64) && allIn s.whr 0 (s.cps.length - 1) && allK s.cps.length (shOkAt s)
theorem shared_no1 {s : Sh} (h : decide (s.whr.length ≤ 64) = false) : sharedB s = false := by simp [sharedB, h]
theorem shared_no2 {s : Sh} (h : allIn s.whr 0 (s.cps.length - 1) = false) : sharedB s = false := by simp [sharedB, h]
theorem shared_no3 {s : Sh} {k : Nat} (hk : k < s.cps.length) (h : shOkAt s k = false) : sharedB s = false := by simp [sharedB, allK_no hk h]
theorem shared_yes {s : Sh} (h1 : decide (s.whr.length ≤ 64) = true) (h2 : allIn s.whr 0 (s.cps.length - 1) = true) (h3 : allK s.cps.length (shOkAt s) = true) : sharedB s = true := by simp only [sharedB, h1, h2, h3]; rfl
theorem shOkAt_get {s : Sh} {k : Nat} {p : Cp} (hk : k < s.cps.length) (hp : p = s.cps[k]) : shOkAt s k = (inB p.val 0 255 && (p.usr == (s.whr.count (k : Int) : Nat)) && decide (1 ≤ p.usr) && !decide (p.val ∈ (s.cps.take k).map Cp.val)) := by
  subst hp
  simp [shOkAt, hk]
theorem countsTo_length (l : List Int) (m k : Nat) : (countsTo l m k).length = m := by simp [countsTo]
theorem countsTo_get (l : List Int) (m k i : Nat) (h : i < (countsTo l m k).length) : (countsTo l m k)[i] = (usersTo l k i : Nat) := by simp [countsTo]
theorem countsTo_zero (l : List Int) (m : Nat) : countsTo l m 0 = List.replicate m 0 := by
  apply List.ext_getElem
  · simp [countsTo]
  · intro i h1 h2
    rw [countsTo_get]
    simp [usersTo]
theorem usersTo_succ {l : List Int} {k i : Nat} (hk : k < l.length) : usersTo l (k + 1) i = usersTo l k i + if l[k] = (i : Int) then 1 else 0 := by
  unfold usersTo
  rw [List.take_succ_eq_append_getElem hk, List.count_append]
  congr 1
  by_cases h : l[k] = (i : Int)
  · simp [h]
  · simp [h]
theorem countsTo_succ {l : List Int} {m k j : Nat} (hk : k < l.length) (hj : l[k] = (j : Int)) (_hjm : j < m) : countsTo l m (k + 1) = (countsTo l m k).set j ((usersTo l k j : Int) + 1) := by
  apply List.ext_getElem
  · simp [countsTo]
  · intro i h1 h2
    rw [countsTo_get, usersTo_succ hk, hj]
    by_cases h : j = i
    · subst h
      simp
    · rw [List.getElem_set_ne h, countsTo_get]
      have : ¬ (j : Int) = (i : Int) := by omega
      simp [this]
theorem usersTo_le (l : List Int) (k i : Nat) : usersTo l k i ≤ k := by
  unfold usersTo
  have := List.count_le_length (a := (i : Int)) (l := l.take k)
  rw [List.length_take] at this
  omega
theorem usersTo_all {l : List Int} {k i : Nat} (h : l.length ≤ k) : usersTo l k i = l.count (i : Int) := by unfold usersTo; rw [List.take_of_length_le h]
theorem cps_mem {l : List Int} {x : Int} : (0 ≤ idx l x) ↔ x ∈ l := by
  have := @idx_neg l x
  constructor
  · intro h; exact Decidable.byContradiction fun hn => by have := this.2 hn; omega
  · intro h; exact Int.not_lt.1 fun hn => this.1 hn h
/-- one user more, of a value that is stored or is stored now -/
def useN (l : List Cp) (v : Int) : Nat := if idx (l.map Cp.val) v < 0 then l.length else (idx (l.map Cp.val) v).toNat
def useL (l : List Cp) (v : Int) : List Cp := if idx (l.map Cp.val) v < 0 then l ++ [⟨v, 1⟩] else l.set (idx (l.map Cp.val) v).toNat ⟨v, (l.getD (idx (l.map Cp.val) v).toNat default).usr + 1⟩
/-- the volume of the first k values of a disk -/
def shareTo (d : List Int) : Nat → Sh
  | 0 => ⟨[], []⟩
  | k + 1 => ⟨(shareTo d k).whr ++ [(useN (shareTo d k).cps (d.getD k 0) : Int)], useL (shareTo d k).cps (d.getD k 0)⟩
def shareB (d : List Int) : Sh := if diskB d then shareTo d d.length else ⟨[], []⟩
/-- a sector's value -/
def shView (s : Sh) : List Int := s.whr.map fun n => (s.cps.getD n.toNat default).val
def viewS (s : Sh) : List Int := if sharedB s then shView s else []
end Go.Proofs.Ytpekccmhfkeadaa
