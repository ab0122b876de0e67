/-
  Thin volumes: the reference's lowest free place. Conditions: lengths at most 2^40.
-/
import Derived.Test.YtkejdgegkbfofaaBase
import Derived.Test.YtkejdgegkbfofaaNum
import Derived.Test.YtkejdgegkbfofaaInts
import Derived.Test.YtkejdgegkbfofaaApp
import Derived.Test.YtkejdgegkbfofaaIntsW
import Derived.Test.YtkejdgegkbfofaaLib
import Derived.Test.YtkejdgegkbfofaaSpares
import Derived.Test.YtkejdgegkbfofaaOwn
import Derived.Test.YtkejdgegkbfofaaThin
import Derived.Test.YtkejdgegkbfofaaThinM
import Derived.Test.YtkejdgegkbfofaaThinC
import Derived.Test.YtkejdgegkbfofaaThinW
namespace Go.Proofs.Ytkejdgegkbfofaa
open Go.RowKit
def inTo (l : List Int) (x : Int) (j : Nat) : Bool := decide (x ∈ l.take j)
theorem inTo_succ {l : List Int} {x : Int} {j : Nat} (hj : j < l.length) : inTo l x (j + 1) = (inTo l x j || (l[j] == x)) := by
  unfold inTo
  rw [List.take_succ_eq_append_getElem hj]
  rw [Bool.eq_iff_iff]
  simp only [decide_eq_true_eq, List.mem_append, List.mem_singleton, Bool.or_eq_true, beq_iff_eq]
  exact ⟨fun h => h.imp id Eq.symm, fun h => h.imp id Eq.symm⟩
theorem inTo_all {l : List Int} {x : Int} {j : Nat} (hj : l.length ≤ j) : inTo l x j = decide (x ∈ l) := by
  unfold inTo
  rw [List.take_of_length_le hj]
set_option maxHeartbeats 2000000 in
theorem l19Free_c (x0 x1 : Value) (t : Th) (w : World) (h : ThinRd w [x0, x1] t) (hs : sizeThin t ≤ 1099511627776) :
    Calls Try.prog 31 #[.agg #[x0, x1]] w fun e w' => e = .returned (.int .i64 (freeB t)) ∧ Below w.heap.size w w' := by
  obtain ⟨u, v, h1, ⟨A, c, rfl, ha, hc0, hm0, hn0⟩, ⟨A', c', rfl, hp, hc1, hm1, hn1⟩⟩ := h
  simp only [List.cons.injEq, and_true] at h1
  obtain ⟨rfl, rfl⟩ := h1
  unfold sizeThin at hs
  go_enter Try.func31, Try.ntmps31
  go_wp2
  go_loop [3] (fun i => ∃ p : Nat, p ≤ t.pool.length ∧ i = .int .i64 p ∧ (∀ q : Nat, q < p → (q : Int) ∈ t.whr)) (fun i => t.pool.length - (intOf i).toNat)
  case atStart => exact ⟨0, Nat.zero_le _, rfl, fun q h => absurd h (by omega)⟩
  case round =>
    obtain ⟨p, hp, rfl, hq⟩ := hrel
    have HQ := Lib.hid hq
    clear hq
    by_cases hlt : p < t.pool.length
    · go_wp2
      go_loop [4, 5] (fun f i => ∃ j : Nat, j ≤ t.whr.length ∧ i = .int .i64 j ∧ f = .bool (!inTo t.whr p j)) (fun _ i => t.whr.length - (intOf i).toNat)
      case atStart => exact ⟨0, Nat.zero_le _, rfl, by simp [inTo]⟩
      case round =>
        obtain ⟨j, hj, rfl, rfl⟩ := hrel
        by_cases hjl : j < t.whr.length
        · obtain ⟨b, off, rfl, hbl, hcc⟩ := ha.int hjl
          have HS := Lib.hid (inTo_succ (x := (p : Int)) hjl)
          cases hin : inTo t.whr p j
          · cases hee : ((t.whr[j]'hjl) == (p : Int))
            · have HI := Lib.hid hin
              have HE := Lib.hid hee
              go_wp2
              go_round
              case rel => exact ⟨j + 1, by omega, by go_num, by rw [HS.out, HI.out]; simp [bne, HE.out]⟩
              case measure => simp [intOf]; omega
            · have HI := Lib.hid hin
              have HE := Lib.hid hee
              go_wp2
              go_round
              case rel => exact ⟨j + 1, by omega, by go_num, by rw [HS.out, HI.out]; simp [bne, HE.out]⟩
              case measure => simp [intOf]; omega
          · have HI := Lib.hid hin
            go_wp2
            go_round
            case rel => exact ⟨j + 1, by omega, by go_num, by rw [HS.out, HI.out]; rfl⟩
            case measure => simp [intOf]; omega
        · have HA := Lib.hid (inTo_all (l := t.whr) (x := (p : Int)) (j := j) (by omega))
          cases hin : inTo t.whr p j
          · have HF : Hid (freeB t = p) := Lib.hid (freeB_at hlt (by have := HA.out; rw [hin] at this; simpa using this.symm) HQ.out)
            go_wp2
            go_ret
            exact ⟨ret_int HF.out.symm, (by repeat (first | with_reducible exact Below.refl _ _ | with_reducible assumption | with_reducible refine below_drewN ?_ _ | with_reducible refine Below.drew ?_ | with_reducible refine Below.alloc ?_ ?_ _ | with_reducible refine Below.setCell ?_ ?_ _ | (with_reducible refine Below.next ?_ (by assumption)) | omega | (focus (simp; omega)) | (focus (simp; done))))⟩
          · have HM : Hid ((p : Int) ∈ t.whr) := Lib.hid (by have := HA.out; rw [hin] at this; simpa using this.symm)
            go_wp2
            go_round
            case rel =>
              refine ⟨p + 1, by omega, by go_num, fun q hq => ?_⟩
              by_cases he : q = p
              · rw [he]; exact HM.out
              · exact HQ.out q (by omega)
            case measure => simp [intOf]; omega
    · have HF : Hid (freeB t = -1) := Lib.hid (freeB_no fun q hq => HQ.out q (by omega))
      go_wp2
      go_ret
      exact ⟨ret_int HF.out.symm, (by repeat (first | with_reducible exact Below.refl _ _ | with_reducible assumption | with_reducible refine below_drewN ?_ _ | with_reducible refine Below.drew ?_ | with_reducible refine Below.alloc ?_ ?_ _ | with_reducible refine Below.setCell ?_ ?_ _ | (with_reducible refine Below.next ?_ (by assumption)) | omega | (focus (simp; omega)) | (focus (simp; done))))⟩
end Go.Proofs.Ytkejdgegkbfofaa
