/-
  math/bits.Mul, slices.Repeat of one record. Conditions: at most 10^6 times.
-/
import Derived.Test.YtnnanknljpkdeaaBase
import Derived.Test.YtnnanknljpkdeaaNum
import Derived.Test.YtnnanknljpkdeaaApp
import Derived.Test.YtnnanknljpkdeaaIntsW
import Derived.Test.YtnnanknljpkdeaaCopyB
import Derived.Test.YtnnanknljpkdeaaPage
import Derived.IntWalk
import Derived.Shelf.Bits.Mul64
import Derived.Laws.Bits64b
import Derived.Lib.Mul64
namespace Go.Proofs.Ytnnanknljpkdeaa
open Go.RowKit
set_option maxHeartbeats 1000000 in
theorem mul64_any (x y : Nat) (hx : x < 18446744073709551616) (hy : y < 18446744073709551616) (w : World) :
    Calls Try.prog 82 #[.int .u64 x, .int .u64 y] w fun e w' => e = .returned (.tuple #[.int .u64 ((x * y / 18446744073709551616 : Nat) : Int), .int .u64 ((x * y % 18446744073709551616 : Nat) : Int)]) ∧ w = w' := by
  obtain ⟨bd, bt, bw, hhi⟩ := Go.Lib.mul64_hi x y hx hy
  have ba := Go.Lib.half_mul_le (a := x / 4294967296) (b := y / 4294967296) (by omega) (by omega)
  have bb := Go.Lib.half_mul_le (a := x / 4294967296) (b := y % 4294967296) (by omega) (by omega)
  have bc := Go.Lib.half_mul_le (a := x % 4294967296) (b := y / 4294967296) (by omega) (by omega)
  have ba' : x / 4294967296 * (y / 4294967296) < 18446744073709551616 := by omega
  have bb' : x / 4294967296 * (y % 4294967296) < 18446744073709551616 := by omega
  have bc' : x % 4294967296 * (y / 4294967296) < 18446744073709551616 := by omega
  have bh1 : x / 4294967296 * (y / 4294967296) + (x / 4294967296 * (y % 4294967296) + x % 4294967296 * (y % 4294967296) / 4294967296) / 4294967296 < 18446744073709551616 := by omega
  have bh : x / 4294967296 * (y / 4294967296) + (x / 4294967296 * (y % 4294967296) + x % 4294967296 * (y % 4294967296) / 4294967296) / 4294967296 + ((x / 4294967296 * (y % 4294967296) + x % 4294967296 * (y % 4294967296) / 4294967296) % 4294967296 + x % 4294967296 * (y / 4294967296)) / 4294967296 < 18446744073709551616 := by omega
  go_enter Try.func82, Try.ntmps82
  go_wp2
  simp only [Go.Proofs.Mul64.maskN x hx, Go.Proofs.Mul64.maskN y hy, Go.Proofs.Mul64.divN, Go.Proofs.Mul64.mulN, Go.Proofs.Mul64.addN, Go.Proofs.Mul64.wrapN _ bd, Go.Proofs.Mul64.wrapN _ bb', Go.Proofs.Mul64.wrapN _ bt, Go.Proofs.Mul64.maskN _ bt, Go.Proofs.Mul64.wrapN _ bc', Go.Proofs.Mul64.wrapN _ bw, Go.Proofs.Mul64.wrapN _ ba', Go.Proofs.Mul64.wrapN _ bh1, Go.Proofs.Mul64.wrapN _ bh, Go.Proofs.Mul64.wrapM (x * y)]
  rw [hhi]
  go_ret2
  exact ⟨rfl, rfl⟩
set_option maxHeartbeats 1000000 in
theorem mul1_any (y : Nat) (hy : y ≤ 1000000) (w : World) :
    Calls Try.prog 77 #[.int .u64 1, .int .u64 y] w fun e w' => e = .returned (.tuple #[.int .u64 0, .int .u64 y]) ∧ w = w' := by
  have c := mul64_any 1 y (by omega) (by omega) w
  have e1 : (1 * y / 18446744073709551616 : Nat) = 0 := by omega
  have e2 : (1 * y % 18446744073709551616 : Nat) = y := by omega
  rw [e1, e2] at c
  have C := Lib.hid c
  clear c e1 e2
  go_enter Try.func77, Try.ntmps77
  go_wp2_with fail
  refine C.out.mono ?_
  rintro e w' ⟨rfl, rfl⟩
  go_wp2
  go_ret2
  exact ⟨rfl, rfl⟩
def repTo {α : Type} (n k : Nat) (x z : α) : List α := List.replicate k x ++ List.replicate (n - k) z
theorem repTo_length {α : Type} (n k : Nat) (x z : α) (hk : k ≤ n) : (repTo n k x z).length = n := by simp [repTo]; omega
theorem repTo_all {α : Type} (n : Nat) (x z : α) : repTo n n x z = List.replicate n x := by simp [repTo]
theorem repTo_take {α : Type} (n k : Nat) (x z : α) : (repTo n k x z).take k = List.replicate k x := by
  unfold repTo; rw [List.take_left' (by simp)]
theorem repTo_one {α : Type} (n : Nat) (x z : α) (hn : 0 < n) : overAt (List.replicate n z) 0 [x] = repTo n 1 x z := by
  unfold overAt repTo
  obtain ⟨m, rfl⟩ : ∃ m, n = m + 1 := ⟨n - 1, by omega⟩
  simp
theorem repTo_over {α : Type} (n k : Nat) (x z : α) (hk : k ≤ n) : overAt (repTo n k x z) k (List.replicate k x) = repTo n (k + min k (n - k)) x z := by
  unfold overAt
  rw [repTo_take, repTo_length n k x z hk, List.take_replicate]
  unfold repTo
  rw [List.drop_append, List.drop_of_length_le (by simp)]
  simp only [List.length_replicate, List.nil_append, List.drop_replicate]
  rw [← List.append_assoc, List.replicate_append_replicate, Nat.min_comm (n - k) k]
  congr 2
  omega
theorem ret_sl {A : Option Addr} {m n c : Nat} (h : m = n) : Ending.returned (.slice A m c) = .returned (.slice A n c) := by rw [h]
set_option maxHeartbeats 4000000 in
theorem repeatPageS_any (A : Option Addr) (x : elemPageS) (n : Nat) (w : World) (ha : Rd encPageS w A [x]) (hn0 : 0 < n) (hn : n ≤ 1000) :
    Calls Try.prog 56 #[.slice A 1 1, .int .i64 n] w (FreshS encPageS tyPageS (List.replicate n x) w) := by
  have hmk := run_make_el elPageS n (by omega) (by omega)
  simp only [show (Value.agg #[.int .i64 0, .int .i64 0]).cells = #[.int .i64 0, .int .i64 0] from rfl, show encPageS.size = 2 from rfl] at hmk
  have hrow := made_row (E := encPageS) (z := Value.agg #[.int .i64 0, .int .i64 0]) (e := 42) w ⟨0, 0⟩ rfl n (by omega)
  simp only [show (Value.agg #[.int .i64 0, .int .i64 0]).cells = #[.int .i64 0, .int .i64 0] from rfl, show encPageS.size = 2 from rfl] at hrow
  have HR := Lib.hid hrow
  clear hrow
  obtain ⟨b, off, rfl, hbl⟩ : ∃ b off, A = some ⟨b, off, none⟩ ∧ b < w.heap.size := by
    obtain ⟨b, off, h, _⟩ := id (ha (by simp))
    exact ⟨b, off, h, ha.lt (by simp) h⟩
  have hra := Lib.hid (Rd.alloc ha (.cells (madeCells #[.int .i64 0, .int .i64 0] (n * 2)) 42))
  go_enter Try.func56, Try.ntmps56
  go_wp2_with (first
    | (go_at_call 77; refine (mul1_any n (by omega) _).mono ?_; rintro e w' ⟨rfl, rfl⟩)
    | (with_reducible refine wpList_copy_recs (o := ⟨some 33, _, _, _, _, _⟩) rfl _ _ rfl elPageS HR.out 0 n n (Nat.zero_le _) (by simp) (some ⟨w.heap.size, 0, none⟩) (fun _ => rfl) rfl (some ⟨b, off, none⟩) 1 [x] rfl hra.out ?_; intro w1 hrow1 hg1))
  have e0 := repTo_one n x (⟨0, 0⟩ : elemPageS) hn0
  have hrow1' := hrow1.out
  rw [e0] at hrow1'
  have HR1 := Lib.hid hrow1'
  have B1 : Hid (Below w.heap.size w w1) := Lib.hid (Below.grown1 ((Below.refl _ _).alloc (Nat.le_refl _) _) hg1 (by simp) (Nat.le_refl _))
  have em : min 1 n = 1 := by omega
  clear hrow1 hrow1' e0 hg1 hmk
  simp only [em]
  go_loopw [8] (fun i wr => ∃ k : Nat, 1 ≤ k ∧ k ≤ n ∧ i = .int .i64 k ∧ Below w.heap.size w wr ∧ Row encPageS wr w.heap.size tyPageS (some ⟨w.heap.size, 0, none⟩) n (repTo n k x ⟨0, 0⟩)) (fun i _ => n - (intOf i).toNat)
  case atStart => exact ⟨1, Nat.le_refl _, by omega, rfl, B1.out, HR1.out⟩
  case round =>
    obtain ⟨k, hk1, hk, rfl, hb, hrow⟩ := hrel
    by_cases hlt : k < n
    · have hrd := Lib.hid (Rd.take hrow.rd k)
      rw [repTo_take] at hrd
      have hlen := Lib.hid (repTo_length n k x (⟨0, 0⟩ : elemPageS) hk)
      have hov := Lib.hid (repTo_over n k x (⟨0, 0⟩ : elemPageS) hk)
      have HRW := Lib.hid hrow
      have hgl := hrow.some_lt
      have hnk : ¬ n = k := by omega
      clear hrow
      go_wp2
      have hdl : Hid (n - k = (repTo n k x (⟨0, 0⟩ : elemPageS)).length - k) := Lib.hid (by rw [hlen.out])
      have hkl : Hid (k ≤ (repTo n k x (⟨0, 0⟩ : elemPageS)).length) := Lib.hid (by rw [hlen.out]; exact hk)
      have hrl : Hid ((List.replicate k x).length = k) := Lib.hid (by simp)
      go_region_law (refine step_copy_recs (by rfl) (.tmp 41) (.tmp 44) (by rfl) elPageS (Row.drew HRW.out) k (n - k) (n - k) hkl.out hdl.out (some ⟨w.heap.size, k * 2, none⟩) (fun _ => rfl) (by simp [go_sem]; done) (some ⟨w.heap.size, 0, none⟩) k n (List.replicate k x) hrl.out (by simp [go_sem]; done) (Rd.drew hrd.out) ?_; intro w2 q hq hq1 hq2 hq3 hrow2 hg2; have hw := IntWalk.i64_in ((k : Int) + (q : Int)) (by omega))
      have hrow3 := hrow2.out
      rw [hov.out] at hrow3
      have HR3 := Lib.hid hrow3
      have HB3 : Hid (Below w.heap.size w w2) := Lib.hid (Below.grown1 (below_drewN hb 1) hg2 hb.size (Nat.le_refl _))
      clear hrow2 hrow3 hg2
      rw [← hq.out] at HR3
      clear hw hq hnk
      simp only [List.getElem_toArray, List.getElem_cons_succ, List.getElem_cons_zero, Act.put, List.setIfInBounds_toArray, List.set_cons_zero, List.set_cons_succ]
      go_roundw
      case rel => exact ⟨_, _, _, _, _, _, _, _, _, _, _, _, _, _, ⟨k + q, by omega, by omega, by go_num, HB3.out, HR3.out⟩, rfl⟩
      case measure => simp [intOf]; omega
    · have hkn : k = n := by omega
      subst hkn
      rw [repTo_all] at hrow
      have e1 : (List.replicate k x).length = k := by simp
      have HE := Lib.hid e1
      go_wp2
      go_ret
      exact ⟨_, _, _, ret_sl HE.out.symm, Nat.le_refl _, hrow.some_lt, hrow, hb⟩
end Go.Proofs.Ytnnanknljpkdeaa
