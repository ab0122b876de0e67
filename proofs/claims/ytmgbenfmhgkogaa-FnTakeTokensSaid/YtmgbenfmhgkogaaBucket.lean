/-
  Buckets: contracts of the functions on one bucket.
-/
import Derived.Test.YtmgbenfmhgkogaaBase
import Derived.Test.YtmgbenfmhgkogaaNum
namespace Go.Proofs.Ytmgbenfmhgkogaa
open Go.RowKit
structure Bk where
  t : Int
  l : Int
deriving DecidableEq
def Bk.v (b : Bk) : Value := .agg #[.int .i64 b.t, .int .i64 b.l]
def ratesOk (r m : Int) : Bool := inB r 0 100 && inB m 0 1000
def fillOk (b : Bk) (now rate most : Int) : Bool := inB most 0 1000 && inB rate 0 100 && inB b.t 0 most && inB b.l 0 100000 && inB now b.l 100000
def fillTo (b : Bk) (now rate most : Int) : Bk := ⟨min most (b.t + rate * (now - b.l)), now⟩
def fillB (b : Bk) (now rate most : Int) : Bk := if fillOk b now rate most then fillTo b now rate most else ⟨0, 0⟩
set_option maxHeartbeats 400000 in
theorem toBucket_any (b : Bk) (w : World) :
    Calls Try.prog 11 #[.agg #[.int .i64 b.t, .int .i64 b.l]] w fun e w' => e = .returned (.agg #[.int .i64 b.t, .int .i64 b.l]) ∧ Below w.heap.size w w' := by
  go_enter Try.func11, Try.ntmps11
  go_wp2
  exact bodyPost_ret (v := .agg #[.int .i64 b.t, .int .i64 b.l]) (by simp [results, Try.results11, go_sem]) rfl ⟨rfl, (by repeat (first | with_reducible exact Below.refl _ _ | with_reducible assumption | with_reducible refine below_drewN ?_ _ | with_reducible refine Below.drew ?_ | with_reducible refine Below.alloc ?_ ?_ _ | with_reducible refine Below.setCell ?_ ?_ _ | (with_reducible refine Below.next ?_ (by assumption)) | omega | (focus (simp; omega)) | (focus (simp; done))))⟩
set_option maxHeartbeats 400000 in
theorem eqBucket_any (a b : Bk) (w : World) :
    Calls Try.prog 13 #[.agg #[.int .i64 a.t, .int .i64 a.l], .agg #[.int .i64 b.t, .int .i64 b.l]] w fun e w' => e = .returned (.bool (decide (a = b))) ∧ Below w.heap.size w w' := by
  obtain ⟨t, l⟩ := a
  obtain ⟨t', l'⟩ := b
  go_enter Try.func13, Try.ntmps13
  go_wp2
  all_goals go_ret
  all_goals (refine ⟨?_, (by repeat (first | with_reducible exact Below.refl _ _ | with_reducible assumption | with_reducible refine below_drewN ?_ _ | with_reducible refine Below.drew ?_ | with_reducible refine Below.alloc ?_ ?_ _ | with_reducible refine Below.setCell ?_ ?_ _ | (with_reducible refine Below.next ?_ (by assumption)) | omega | (focus (simp; omega)) | (focus (simp; done))))⟩; simp_all)
set_option maxHeartbeats 400000 in
theorem areRates_any (r m : Int) (w : World) :
    Calls Try.prog 29 #[.int .i64 r, .int .i64 m] w fun e w' => e = .returned (.bool (ratesOk r m)) ∧ w = w' := by
  unfold ratesOk
  go_enter Try.func29, Try.ntmps29
  go_wp2_with (go_at_call 30; refine (within_any _ _ _ _).mono ?_; rintro e w' ⟨rfl, rfl⟩)
  all_goals go_ret
  all_goals (refine ⟨?_, rfl⟩; simp_all)
set_option maxHeartbeats 400000 in
theorem filled_any (b : Bk) (now rate most : Int) (w : World) (h : fillOk b now rate most = true) :
    Calls Try.prog 31 #[.agg #[.int .i64 b.t, .int .i64 b.l], .int .i64 now, .int .i64 rate, .int .i64 most] w fun e w' => e = .returned (.agg #[.int .i64 (fillTo b now rate most).t, .int .i64 (fillTo b now rate most).l]) ∧ Below w.heap.size w w' := by
  obtain ⟨t, l⟩ := b
  simp only [fillOk, Bool.and_eq_true, inB_true] at h
  obtain ⟨⟨⟨⟨h1, h2⟩, h3⟩, h4⟩, h5⟩ := h
  have hm0 : 0 ≤ rate * (now - l) := Int.mul_nonneg (by omega) (by omega)
  have hm1 : rate * (now - l) ≤ 100 * 100000 := Int.mul_le_mul (by omega) (by omega) (by omega) (by omega)
  go_enter Try.func31, Try.ntmps31
  go_wp2
  · refine bodyPost_ret (by first | (simp [results, Try.results31, go_sem]; done) | (simp [results, Try.results31, go_sem]; rfl)) rfl ⟨?_, (by repeat (first | with_reducible exact Below.refl _ _ | with_reducible assumption | with_reducible refine below_drewN ?_ _ | with_reducible refine Below.drew ?_ | with_reducible refine Below.alloc ?_ ?_ _ | with_reducible refine Below.setCell ?_ ?_ _ | (with_reducible refine Below.next ?_ (by assumption)) | omega | (focus (simp; omega)) | (focus (simp; done))))⟩
    simp only [fillTo]
    rw [Int.min_eq_right (by omega)]
  · refine bodyPost_ret (by first | (simp [results, Try.results31, go_sem]; done) | (simp [results, Try.results31, go_sem]; rfl)) rfl ⟨?_, (by repeat (first | with_reducible exact Below.refl _ _ | with_reducible assumption | with_reducible refine below_drewN ?_ _ | with_reducible refine Below.drew ?_ | with_reducible refine Below.alloc ?_ ?_ _ | with_reducible refine Below.setCell ?_ ?_ _ | (with_reducible refine Below.next ?_ (by assumption)) | omega | (focus (simp; omega)) | (focus (simp; done))))⟩
    simp only [fillTo]
    rw [Int.min_eq_left (by omega)]
theorem fillB_no {b : Bk} {now rate most : Int} (h : fillOk b now rate most = false) : fillB b now rate most = ⟨0, 0⟩ := by simp [fillB, h]
theorem fillB_yes {b : Bk} {now rate most : Int} (h : fillOk b now rate most = true) : fillB b now rate most = fillTo b now rate most := by simp [fillB, h]
set_option maxHeartbeats 1000000 in
theorem implFill_any (b : Bk) (now rate most : Int) (w : World) :
    Calls Try.prog 12 #[.agg #[.int .i64 b.t, .int .i64 b.l], .int .i64 now, .int .i64 rate, .int .i64 most] w fun e w' => e = .returned (.agg #[.int .i64 (fillB b now rate most).t, .int .i64 (fillB b now rate most).l]) ∧ Below w.heap.size w w' := by
  obtain ⟨t, l⟩ := b
  go_enter Try.func12, Try.ntmps12
  go_wp2_with (first
    | (go_at_call 30; refine (within_any _ _ _ _).mono ?_; rintro e w' ⟨rfl, rfl⟩)
    | (go_at_call 29; refine (areRates_any _ _ _).mono ?_; rintro e w' ⟨rfl, rfl⟩)
    | (go_at_call 31; have HF : Hid (fillOk ⟨t, l⟩ now rate most = true) := Lib.hid (by simp_all [fillOk, ratesOk]); refine (filled_any ⟨t, l⟩ now rate most _ HF.out).mono ?_; rintro e w' ⟨rfl, hb⟩; obtain ⟨hc, hf⟩ := bcell hb; have hz : w.heap.size + 2 ≤ w'.heap.size := (by have := hb.size; simp at this; omega)))
  all_goals first
    | (rw [fillB_yes HF.out]; refine bodyPost_ret (by first | (simp [results, Try.results12, go_sem, hc]; done) | (simp [results, Try.results12, go_sem, hc]; rfl)) rfl ⟨rfl, ?_⟩; refine Below.setCell (Below.setCell (Below.next ?_ hb) (by simp) _) (by simp) _; exact (by repeat (first | with_reducible exact Below.refl _ _ | with_reducible assumption | with_reducible refine below_drewN ?_ _ | with_reducible refine Below.drew ?_ | with_reducible refine Below.alloc ?_ ?_ _ | with_reducible refine Below.setCell ?_ ?_ _ | (with_reducible refine Below.next ?_ (by assumption)) | omega | (focus (simp; omega)) | (focus (simp; done)))))
    | (have e0 : fillB ⟨t, l⟩ now rate most = ⟨0, 0⟩ := fillB_no (by grind [fillOk, ratesOk]); rw [e0]; exact bodyPost_ret (by first | (simp [results, Try.results12, go_sem]; done) | (simp [results, Try.results12, go_sem]; rfl)) rfl ⟨rfl, (by repeat (first | with_reducible exact Below.refl _ _ | with_reducible assumption | with_reducible refine below_drewN ?_ _ | with_reducible refine Below.drew ?_ | with_reducible refine Below.alloc ?_ ?_ _ | with_reducible refine Below.setCell ?_ ?_ _ | (with_reducible refine Below.next ?_ (by assumption)) | omega | (focus (simp; omega)) | (focus (simp; done))))⟩)
set_option maxHeartbeats 1000000 in
theorem specFill_any (b : Bk) (now rate most : Int) (w : World) :
    Calls Try.prog 10 #[.agg #[.int .i64 b.t, .int .i64 b.l], .int .i64 now, .int .i64 rate, .int .i64 most] w fun e w' => e = .returned (.agg #[.int .i64 (fillB b now rate most).t, .int .i64 (fillB b now rate most).l]) ∧ Below w.heap.size w w' := by
  cases hf : fillOk b now rate most
  · rw [fillB_no hf]
    obtain ⟨t, l⟩ := b
    have HF := Lib.hid hf
    clear hf
    go_enter Try.func10, Try.ntmps10
    go_wp2_with (go_at_call 28; refine (l1In_any _ _ _ _).mono ?_; rintro e w' ⟨rfl, rfl⟩)
    all_goals first
      | (exfalso; have := HF.out; simp_all [fillOk]; done)
      | (exact bodyPost_ret (by first | (simp [results, Try.results10, go_sem]; done) | (simp [results, Try.results10, go_sem]; rfl)) rfl ⟨rfl, (by repeat (first | with_reducible exact Below.refl _ _ | with_reducible assumption | with_reducible refine below_drewN ?_ _ | with_reducible refine Below.drew ?_ | with_reducible refine Below.alloc ?_ ?_ _ | with_reducible refine Below.setCell ?_ ?_ _ | (with_reducible refine Below.next ?_ (by assumption)) | omega | (focus (simp; omega)) | (focus (simp; done))))⟩)
  · rw [fillB_yes hf]
    obtain ⟨t, l⟩ := b
    have hf1 := hf
    simp only [fillOk, Bool.and_eq_true, inB_true] at hf
    obtain ⟨⟨⟨⟨h1, h2⟩, h3⟩, h4⟩, h5⟩ := hf
    simp only [fillOk, Bool.and_eq_true] at hf1
    obtain ⟨⟨⟨⟨g1, g2⟩, g3⟩, g4⟩, g5⟩ := hf1
    have hm0 : 0 ≤ rate * (now - l) := Int.mul_nonneg (by omega) (by omega)
    have hm1 : rate * (now - l) ≤ 100 * 100000 := Int.mul_le_mul (by omega) (by omega) (by omega) (by omega)
    go_enter Try.func10, Try.ntmps10
    go_wp2_with (go_at_call 28; refine (l1In_any _ _ _ _).mono ?_; rintro e w' ⟨rfl, rfl⟩)
    · refine bodyPost_ret (by first | (simp [results, Try.results10, go_sem]; done) | (simp [results, Try.results10, go_sem]; rfl)) rfl ⟨?_, (by repeat (first | with_reducible exact Below.refl _ _ | with_reducible assumption | with_reducible refine below_drewN ?_ _ | with_reducible refine Below.drew ?_ | with_reducible refine Below.alloc ?_ ?_ _ | with_reducible refine Below.setCell ?_ ?_ _ | (with_reducible refine Below.next ?_ (by assumption)) | omega | (focus (simp; omega)) | (focus (simp; done))))⟩
      simp only [fillTo]
      rw [Int.min_eq_right (by omega)]
    · refine bodyPost_ret (by first | (simp [results, Try.results10, go_sem]; done) | (simp [results, Try.results10, go_sem]; rfl)) rfl ⟨?_, (by repeat (first | with_reducible exact Below.refl _ _ | with_reducible assumption | with_reducible refine below_drewN ?_ _ | with_reducible refine Below.drew ?_ | with_reducible refine Below.alloc ?_ ?_ _ | with_reducible refine Below.setCell ?_ ?_ _ | (with_reducible refine Below.next ?_ (by assumption)) | omega | (focus (simp; omega)) | (focus (simp; done))))⟩
      simp only [fillTo]
      rw [Int.min_eq_left (by omega)]
def takeOk (b : Bk) (n : Int) : Bool := inB n 0 1000 && decide (n ≤ b.t)
def takeB (b : Bk) (n : Int) : Bk := if inB n 0 1000 then (if b.t < n then b else ⟨b.t - n, b.l⟩) else ⟨0, 0⟩
set_option maxHeartbeats 1000000 in
theorem implTake_any (b : Bk) (n : Int) (hb : b.t ≤ 9223372036854775807) (w : World) :
    Calls Try.prog 15 #[.agg #[.int .i64 b.t, .int .i64 b.l], .int .i64 n] w fun e w' => e = .returned (.tuple #[.agg #[.int .i64 (takeB b n).t, .int .i64 (takeB b n).l], .bool (takeOk b n)]) ∧ Below w.heap.size w w' := by
  obtain ⟨t, l⟩ := b
  simp only at hb
  cases hn : inB n 0 1000
  · have e1 : takeB ⟨t, l⟩ n = ⟨0, 0⟩ := by simp [takeB, hn]
    have e2 : takeOk ⟨t, l⟩ n = false := by simp [takeOk, hn]
    rw [e1, e2]
    clear e1 e2
    go_enter Try.func15, Try.ntmps15
    go_wp2_with (go_at_call 30; refine (within_any _ _ _ _).mono ?_; rintro e w' ⟨rfl, rfl⟩)
    exact bodyPost_ret (by first | (simp [results, Try.results15, go_sem]; done) | (simp [results, Try.results15, go_sem]; rfl)) rfl ⟨rfl, (by repeat (first | with_reducible exact Below.refl _ _ | with_reducible assumption | with_reducible refine below_drewN ?_ _ | with_reducible refine Below.drew ?_ | with_reducible refine Below.alloc ?_ ?_ _ | with_reducible refine Below.setCell ?_ ?_ _ | (with_reducible refine Below.next ?_ (by assumption)) | omega | (focus (simp; omega)) | (focus (simp; done))))⟩
  · have h := inB_true.1 hn
    by_cases hlt : t < n
    · have e1 : takeB ⟨t, l⟩ n = ⟨t, l⟩ := by simp [takeB, hn, hlt]
      have e2 : takeOk ⟨t, l⟩ n = false := by simp [takeOk, hn]; omega
      rw [e1, e2]
      clear e1 e2
      go_enter Try.func15, Try.ntmps15
      go_wp2_with (go_at_call 30; refine (within_any _ _ _ _).mono ?_; rintro e w' ⟨rfl, rfl⟩)
      exact bodyPost_ret (by first | (simp [results, Try.results15, go_sem]; done) | (simp [results, Try.results15, go_sem]; rfl)) rfl ⟨rfl, (by repeat (first | with_reducible exact Below.refl _ _ | with_reducible assumption | with_reducible refine below_drewN ?_ _ | with_reducible refine Below.drew ?_ | with_reducible refine Below.alloc ?_ ?_ _ | with_reducible refine Below.setCell ?_ ?_ _ | (with_reducible refine Below.next ?_ (by assumption)) | omega | (focus (simp; omega)) | (focus (simp; done))))⟩
    · have e1 : takeB ⟨t, l⟩ n = ⟨t - n, l⟩ := by simp [takeB, hn, hlt]
      have e2 : takeOk ⟨t, l⟩ n = true := by simp [takeOk, hn]; omega
      rw [e1, e2]
      clear e1 e2
      go_enter Try.func15, Try.ntmps15
      go_wp2_with (go_at_call 30; refine (within_any _ _ _ _).mono ?_; rintro e w' ⟨rfl, rfl⟩)
      exact bodyPost_ret (by first | (simp [results, Try.results15, go_sem]; done) | (simp [results, Try.results15, go_sem]; rfl)) rfl ⟨rfl, (by repeat (first | with_reducible exact Below.refl _ _ | with_reducible assumption | with_reducible refine below_drewN ?_ _ | with_reducible refine Below.drew ?_ | with_reducible refine Below.alloc ?_ ?_ _ | with_reducible refine Below.setCell ?_ ?_ _ | (with_reducible refine Below.next ?_ (by assumption)) | omega | (focus (simp; omega)) | (focus (simp; done))))⟩
set_option maxHeartbeats 1000000 in
theorem specTake_any (b : Bk) (n : Int) (hb : b.t ≤ 9223372036854775807) (w : World) :
    Calls Try.prog 14 #[.agg #[.int .i64 b.t, .int .i64 b.l], .int .i64 n] w fun e w' => e = .returned (.tuple #[.agg #[.int .i64 (takeB b n).t, .int .i64 (takeB b n).l], .bool (takeOk b n)]) ∧ Below w.heap.size w w' := by
  obtain ⟨t, l⟩ := b
  simp only at hb
  cases hn : inB n 0 1000
  · have e1 : takeB ⟨t, l⟩ n = ⟨0, 0⟩ := by simp [takeB, hn]
    have e2 : takeOk ⟨t, l⟩ n = false := by simp [takeOk, hn]
    rw [e1, e2]
    clear e1 e2
    go_enter Try.func14, Try.ntmps14
    go_wp2_with (go_at_call 28; refine (l1In_any _ _ _ _).mono ?_; rintro e w' ⟨rfl, rfl⟩)
    exact bodyPost_ret (by first | (simp [results, Try.results14, go_sem]; done) | (simp [results, Try.results14, go_sem]; rfl)) rfl ⟨rfl, (by repeat (first | with_reducible exact Below.refl _ _ | with_reducible assumption | with_reducible refine below_drewN ?_ _ | with_reducible refine Below.drew ?_ | with_reducible refine Below.alloc ?_ ?_ _ | with_reducible refine Below.setCell ?_ ?_ _ | (with_reducible refine Below.next ?_ (by assumption)) | omega | (focus (simp; omega)) | (focus (simp; done))))⟩
  · have h := inB_true.1 hn
    by_cases hlt : t < n
    · have e1 : takeB ⟨t, l⟩ n = ⟨t, l⟩ := by simp [takeB, hn, hlt]
      have e2 : takeOk ⟨t, l⟩ n = false := by simp [takeOk, hn]; omega
      rw [e1, e2]
      clear e1 e2
      go_enter Try.func14, Try.ntmps14
      go_wp2_with (go_at_call 28; refine (l1In_any _ _ _ _).mono ?_; rintro e w' ⟨rfl, rfl⟩)
      exact bodyPost_ret (by first | (simp [results, Try.results14, go_sem]; done) | (simp [results, Try.results14, go_sem]; rfl)) rfl ⟨rfl, (by repeat (first | with_reducible exact Below.refl _ _ | with_reducible assumption | with_reducible refine below_drewN ?_ _ | with_reducible refine Below.drew ?_ | with_reducible refine Below.alloc ?_ ?_ _ | with_reducible refine Below.setCell ?_ ?_ _ | (with_reducible refine Below.next ?_ (by assumption)) | omega | (focus (simp; omega)) | (focus (simp; done))))⟩
    · have e1 : takeB ⟨t, l⟩ n = ⟨t - n, l⟩ := by simp [takeB, hn, hlt]
      have e2 : takeOk ⟨t, l⟩ n = true := by simp [takeOk, hn]; omega
      rw [e1, e2]
      clear e1 e2
      go_enter Try.func14, Try.ntmps14
      go_wp2_with (go_at_call 28; refine (l1In_any _ _ _ _).mono ?_; rintro e w' ⟨rfl, rfl⟩)
      exact bodyPost_ret (by first | (simp [results, Try.results14, go_sem]; done) | (simp [results, Try.results14, go_sem]; rfl)) rfl ⟨rfl, (by repeat (first | with_reducible exact Below.refl _ _ | with_reducible assumption | with_reducible refine below_drewN ?_ _ | with_reducible refine Below.drew ?_ | with_reducible refine Below.alloc ?_ ?_ _ | with_reducible refine Below.setCell ?_ ?_ _ | (with_reducible refine Below.next ?_ (by assumption)) | omega | (focus (simp; omega)) | (focus (simp; done))))⟩
end Go.Proofs.Ytmgbenfmhgkogaa
