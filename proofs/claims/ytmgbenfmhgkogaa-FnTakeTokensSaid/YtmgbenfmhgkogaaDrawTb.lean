/-
  What the draws for the laws on one bucket give. Conditions: the count of draws stays below 10^9.
-/
import Derived.Test.YtmgbenfmhgkogaaBase
import Derived.Test.YtmgbenfmhgkogaaNum
import Derived.Test.YtmgbenfmhgkogaaInts
import Derived.Test.YtmgbenfmhgkogaaApp
import Derived.Test.YtmgbenfmhgkogaaIntsW
import Derived.Test.YtmgbenfmhgkogaaLib
import Derived.Test.YtmgbenfmhgkogaaDraw
import Derived.Test.YtmgbenfmhgkogaaDrawK
import Derived.Test.YtmgbenfmhgkogaaOwn
import Derived.Test.YtmgbenfmhgkogaaBucket
import Derived.IntWalk
import Derived.Deep.DrawnRows
namespace Go.Proofs.Ytmgbenfmhgkogaa
open Go.RowKit
attribute [local go_sem ↓] Go.wp_at_zero Go.wp_at_succ
def FreshTake (w : World) (e : Ending) (w' : World) : Prop :=
  ∃ (b : Bk) (n : Int), e = .returned (.tuple #[.agg #[.int .i64 b.t, .int .i64 b.l], .int .i64 n]) ∧ 0 ≤ b.t ∧ b.t ≤ 100000 ∧ 0 ≤ b.l ∧ b.l ≤ 100000 ∧ -1 ≤ n ∧ n ≤ 100000 ∧ Below w.heap.size w w'
def FreshFill (w : World) (e : Ending) (w' : World) : Prop :=
  ∃ (b : Bk) (n r m : Int), e = .returned (.tuple #[.agg #[.int .i64 b.t, .int .i64 b.l], .int .i64 n, .int .i64 r, .int .i64 m]) ∧ 0 ≤ b.t ∧ b.t ≤ 100000 ∧ 0 ≤ b.l ∧ b.l ≤ 1000 ∧ -100 ≤ n ∧ n ≤ 1000 ∧ -1 ≤ r ∧ r ≤ 12 ∧ 0 ≤ m ∧ m ≤ 60 ∧ Below w.heap.size w w'
set_option maxHeartbeats 4000000 in
theorem drawFill_any (A : Option Addr) (c : Nat) (l : List Int) (w : World) (hl : l.length ≤ c) (hm : c ≤ maxLen) (hr : Rd eByte w A l) (hb : ∀ x ∈ l, 0 ≤ x ∧ x ≤ 255) :
    Calls Try.prog 18 #[.slice A l.length c] w (FreshFill w) := by
  have HB := Lib.hid hb
  clear hb
  have L0 := Loc.new w [.int .i64 0, .int .i64 0] 24
  have hr1 := Lib.hid (Rd.alloc hr (.cells #[.int .i64 0, .int .i64 0] 24))
  have hA : Hid (∀ b off, 0 < l.length → A = some ⟨b, off, none⟩ → b < w.heap.size) := Lib.hid fun _ _ h0 hA => hr.lt h0 hA
  go_enter Try.func18, Try.ntmps18
  go_wp2_with fail
  refine (l20Open_any A c l _ hl hm hr1.out HB.out w.heap.size hA.out (by simp)).mono ?_
  rintro e w1 ⟨R, rfl, hR1, hge, hb1⟩
  replace L0 := Loc.carryB L0 (fun h => by ((repeat (first | with_reducible exact h | with_reducible refine Loc.drew ?_ | with_reducible refine Loc.drewN ?_ _ | with_reducible refine Loc.alloc ?_ _)); done)) hb1
  have HB1 : Hid (Below w.heap.size w w1) := Lib.hid (Below.next (W := w) (by repeat (first | with_reducible exact Below.refl _ _ | with_reducible refine below_drewN ?_ _ | with_reducible refine Below.drew ?_ | with_reducible refine Below.alloc ?_ ?_ _ | with_reducible refine Below.setCell ?_ ?_ _ | omega | (focus (simp; omega)) | (focus (simp; done)))) hb1)
  have hz1 := hb1.size
  simp at hge hz1
  clear hb1
  go_wp2_with fail
  refine (pick_any w.heap.size R (0) (60) _ (by ((repeat (first | with_reducible assumption | with_reducible refine Rdr.drew ?_ | with_reducible refine Rdr.drewN ?_ _ | with_reducible refine Rdr.alloc ?_ _ | with_reducible refine Rdr.other ?_ _ _ ?_ ?_ | omega)); done)) (by omega) (by omega) (by omega)).mono ?_
  rintro e w2 ⟨r2, rfl, a2, b2, hR2, hg2⟩
  have b2' := b2 (by omega)
  clear b2
  replace hR2 := hR2.to (p' := 0 + 1) (by omega)
  have hz2 := hg2.size
  (try simp at hz2)
  have hlt2 := hR2.lt
  have ne2 : w2.heap.size ≠ R := by omega
  replace L0 := Loc.carry L0 (fun h => by ((repeat (first | with_reducible exact h | with_reducible refine Loc.drew ?_ | with_reducible refine Loc.drewN ?_ _ | with_reducible refine Loc.alloc ?_ _)); done)) hg2 (by omega)
  go_wp2_with fail
  refine (pick_any w.heap.size R (0 + 1) (r2 + 1) _ (by ((repeat (first | with_reducible assumption | with_reducible refine Rdr.drew ?_ | with_reducible refine Rdr.drewN ?_ _ | with_reducible refine Rdr.alloc ?_ _ | with_reducible refine Rdr.other ?_ _ _ ?_ ?_ | omega)); done)) (by omega) (by omega) (by omega)).mono ?_
  rintro e w3 ⟨r3, rfl, a3, b3, hR3, hg3⟩
  have b3' := b3 (by omega)
  clear b3
  replace hR3 := hR3.to (p' := 0 + 1 + 1) (by omega)
  have hz3 := hg3.size
  (try simp at hz3)
  have hlt3 := hR3.lt
  have ne3 : w3.heap.size ≠ R := by omega
  replace L0 := Loc.carry L0 (fun h => by ((repeat (first | with_reducible exact h | with_reducible refine Loc.drew ?_ | with_reducible refine Loc.drewN ?_ _ | with_reducible refine Loc.alloc ?_ _)); done)) hg3 (by omega)
  go_wp2_with fail
  refine (pick_any w.heap.size R (0 + 1 + 1) (40) _ (by ((repeat (first | with_reducible assumption | with_reducible refine Rdr.drew ?_ | with_reducible refine Rdr.drewN ?_ _ | with_reducible refine Rdr.alloc ?_ _ | with_reducible refine Rdr.other ?_ _ _ ?_ ?_ | omega)); done)) (by omega) (by omega) (by omega)).mono ?_
  rintro e w4 ⟨r4, rfl, a4, b4, hR4, hg4⟩
  have b4' := b4 (by omega)
  clear b4
  replace hR4 := hR4.to (p' := 0 + 1 + 1 + 1) (by omega)
  have hz4 := hg4.size
  (try simp at hz4)
  have hlt4 := hR4.lt
  have ne4 : w4.heap.size ≠ R := by omega
  replace L0 := Loc.carry L0 (fun h => by ((repeat (first | with_reducible exact h | with_reducible refine Loc.drew ?_ | with_reducible refine Loc.drewN ?_ _ | with_reducible refine Loc.alloc ?_ _)); done)) hg4 (by omega)
  have HB4 := Lib.hid (below_of_grown (below_of_grown (below_of_grown HB1.out hg2 (by omega) (by omega)) hg3 (by omega) (by omega)) hg4 (by omega) (by omega))
  have LS := Loc.newAt w4 [.int .i64 r3, .int .i64 r4] 24 (b := w4.heap.size) rfl
  clear hg2 hg3 hg4 HB1
  go_wp2_with fail
  refine (odd_any w.heap.size R (0 + 1 + 1 + 1) 9 _ (by ((repeat (first | with_reducible assumption | with_reducible refine Rdr.drew ?_ | with_reducible refine Rdr.drewN ?_ _ | with_reducible refine Rdr.alloc ?_ _ | with_reducible refine Rdr.other ?_ _ _ ?_ ?_ | omega)); done)) (by omega) (by omega) (by omega) (by omega)).mono ?_
  rintro e w5 ⟨r5, rfl, hR5, hg5⟩
  replace hR5 := hR5.to (p' := 4) (by omega)
  have hz5 := hg5.size
  simp at hz5
  replace L0 := Loc.carry L0 (fun h => by ((repeat (first | with_reducible exact h | with_reducible refine Loc.drew ?_ | with_reducible refine Loc.drewN ?_ _ | with_reducible refine Loc.alloc ?_ _)); done)) hg5 (by omega)
  replace LS := Loc.carry LS (fun h => by ((repeat (first | with_reducible exact h | with_reducible refine Loc.drew ?_ | with_reducible refine Loc.drewN ?_ _ | with_reducible refine Loc.alloc ?_ _)); done)) hg5 (by omega)
  have HB5 : Hid (Below w.heap.size w w5) := Lib.hid (below_of_grown (by repeat (first | with_reducible exact HB4.out | with_reducible exact Below.refl _ _ | with_reducible refine below_drewN ?_ _ | with_reducible refine Below.drew ?_ | with_reducible refine Below.alloc ?_ ?_ _ | with_reducible refine Below.setCell ?_ ?_ _ | (with_reducible refine Below.next ?_ (by assumption)) | ((with_reducible refine Below.far' (by assumption) ?_ ?_ ?_); (focus (first | omega | (simp; omega) | (simp; done))); (focus (first | omega | (simp; omega) | (simp; done)))) | omega | (focus (simp; omega)) | (focus (simp; done)))) hg5 (by simp; omega) (by omega))
  have hR5l := hR5.lt
  have zS5 := LS.lt
  have z05 := L0.lt
  clear hg5 HB4
  obtain ⟨b, hbt, hbl, hb0, hb1⟩ : ∃ t : Int, (t = r3 ∧ r5 = false ∨ t = r2 + 1 ∧ r5 = true) ∧ 0 ≤ t ∧ t ≤ 60 ∧ True := by
    cases r5
    · exact ⟨r3, .inl ⟨rfl, rfl⟩, by omega, by omega, trivial⟩
    · exact ⟨r2 + 1, .inr ⟨rfl, rfl⟩, by omega, by omega, trivial⟩
  clear hb1
  rcases hbt with ⟨rfl, rfl⟩ | ⟨rfl, rfl⟩
  · obtain ⟨x0, x1, xf⟩ := LS.two
    obtain ⟨y0, y1, yf⟩ := L0.two
    go_wp2_with fail
    go_region_held3 (fun w' => w'.cell? ⟨w4.heap.size, 0, none⟩ = some (.int .i64 b) ∧ w'.cell? ⟨w4.heap.size, 1, none⟩ = some (.int .i64 r4)) (first | go_keep | (refine ⟨?_, ?_⟩ <;> (simp [go_sem, *]; done)))
      (first
        | (go_at_call 33; (with_reducible refine (pick_any w.heap.size R (4) 20 _ (Rdr.drew hR5) (by omega) (by omega) (by omega)).mono ?_); rintro e w6 ⟨r6, rfl, a6, b6, hR6, hg6⟩; have b6' := b6 (by omega); clear b6; replace hR6 := hR6.to (p' := 4 + 1) (by omega); have LS6 := Loc.carry LS (fun h => by ((repeat (first | with_reducible exact h | with_reducible refine Loc.drew ?_ | with_reducible refine Loc.drewN ?_ _ | with_reducible refine Loc.alloc ?_ _)); done)) hg6 (by omega); have L06 := Loc.carry L0 (fun h => by ((repeat (first | with_reducible exact h | with_reducible refine Loc.drew ?_ | with_reducible refine Loc.drewN ?_ _ | with_reducible refine Loc.alloc ?_ _)); done)) hg6 (by omega); have HB6 : Hid (Below w.heap.size w w6) := Lib.hid (below_of_grown (by repeat (first | with_reducible exact HB5.out | with_reducible exact Below.refl _ _ | with_reducible refine below_drewN ?_ _ | with_reducible refine Below.drew ?_ | with_reducible refine Below.alloc ?_ ?_ _ | with_reducible refine Below.setCell ?_ ?_ _ | (with_reducible refine Below.next ?_ (by assumption)) | ((with_reducible refine Below.far' (by assumption) ?_ ?_ ?_); (focus (first | omega | (simp; omega) | (simp; done))); (focus (first | omega | (simp; omega) | (simp; done)))) | omega | (focus (simp; omega)) | (focus (simp; done)))) hg6 (by first | omega | (focus (simp; omega)) | (focus (simp; done))) (by omega)); obtain ⟨x06, x16, xf6⟩ := LS6.two; obtain ⟨y06, y16, yf6⟩ := L06.two; have hz6 := hg6.size; (try simp at hz6); have zS6 := LS6.lt; have z06 := L06.lt; have hl6 := hR6.lt; clear hg6; have hw6 : IntKind.i64.wrap (r4 + r6) = r4 + r6 := (IntWalk.i64_in _ (by omega)))
        | (go_at_call 33; (with_reducible refine (pick_any w.heap.size R (4 + 1) 9 _ (hR6) (by omega) (by omega) (by omega)).mono ?_); rintro e w7 ⟨r7, rfl, a7, b7, hR7, hg7⟩; have b7' := b7 (by omega); clear b7; replace hR7 := hR7.to (p' := 4 + 1 + 1) (by omega); have LS7 := Loc.carry LS6 (fun h => by ((repeat (first | with_reducible exact h | with_reducible refine Loc.drew ?_ | with_reducible refine Loc.drewN ?_ _ | with_reducible refine Loc.alloc ?_ _)); done)) hg7 (by omega); have L07 := Loc.carry L06 (fun h => by ((repeat (first | with_reducible exact h | with_reducible refine Loc.drew ?_ | with_reducible refine Loc.drewN ?_ _ | with_reducible refine Loc.alloc ?_ _)); done)) hg7 (by omega); have HB7 : Hid (Below w.heap.size w w7) := Lib.hid (below_of_grown (by repeat (first | with_reducible exact HB6.out | with_reducible exact Below.refl _ _ | with_reducible refine below_drewN ?_ _ | with_reducible refine Below.drew ?_ | with_reducible refine Below.alloc ?_ ?_ _ | with_reducible refine Below.setCell ?_ ?_ _ | (with_reducible refine Below.next ?_ (by assumption)) | ((with_reducible refine Below.far' (by assumption) ?_ ?_ ?_); (focus (first | omega | (simp; omega) | (simp; done))); (focus (first | omega | (simp; omega) | (simp; done)))) | omega | (focus (simp; omega)) | (focus (simp; done)))) hg7 (by first | omega | (focus (simp; omega)) | (focus (simp; done))) (by omega)); obtain ⟨x07, x17, xf7⟩ := LS7.two; obtain ⟨y07, y17, yf7⟩ := L07.two; have hz7 := hg7.size; (try simp at hz7); have zS7 := LS7.lt; have z07 := L07.lt; have hl7 := hR7.lt; clear hg7; obtain ⟨d7, e7, d70, d71⟩ : ∃ d7, r7 / 8 = d7 ∧ 0 ≤ d7 ∧ d7 ≤ 1 := (⟨_, rfl, by omega, by omega⟩); have t7 : r7.tdiv 8 = d7 := (by rw [Int.tdiv_eq_ediv_of_nonneg a7, e7]); have hw7 : IntKind.i64.wrap d7 = d7 := (IntWalk.i64_in _ (by omega)); have hw72 : IntKind.i64.wrap (d7 * 50) = d7 * 50 := (IntWalk.i64_in _ (by omega)); have hw73 : IntKind.i64.wrap (r4 + r6 - d7 * 50) = r4 + r6 - d7 * 50 := (IntWalk.i64_in _ (by omega)))
        | (go_at_call 33; (with_reducible refine (pick_any w.heap.size R (4 + 1 + 1) 12 _ (hR7) (by omega) (by omega) (by omega)).mono ?_); rintro e w8 ⟨r8, rfl, a8, b8, hR8, hg8⟩; have b8' := b8 (by omega); clear b8; replace hR8 := hR8.to (p' := 4 + 1 + 1 + 1) (by omega); have LS8 := Loc.carry LS7 (fun h => by ((repeat (first | with_reducible exact h | with_reducible refine Loc.drew ?_ | with_reducible refine Loc.drewN ?_ _ | with_reducible refine Loc.alloc ?_ _)); done)) hg8 (by omega); have L08 := Loc.carry L07 (fun h => by ((repeat (first | with_reducible exact h | with_reducible refine Loc.drew ?_ | with_reducible refine Loc.drewN ?_ _ | with_reducible refine Loc.alloc ?_ _)); done)) hg8 (by omega); have HB8 : Hid (Below w.heap.size w w8) := Lib.hid (below_of_grown (by repeat (first | with_reducible exact HB7.out | with_reducible exact Below.refl _ _ | with_reducible refine below_drewN ?_ _ | with_reducible refine Below.drew ?_ | with_reducible refine Below.alloc ?_ ?_ _ | with_reducible refine Below.setCell ?_ ?_ _ | (with_reducible refine Below.next ?_ (by assumption)) | ((with_reducible refine Below.far' (by assumption) ?_ ?_ ?_); (focus (first | omega | (simp; omega) | (simp; done))); (focus (first | omega | (simp; omega) | (simp; done)))) | omega | (focus (simp; omega)) | (focus (simp; done)))) hg8 (by first | omega | (focus (simp; omega)) | (focus (simp; done))) (by omega)); obtain ⟨x08, x18, xf8⟩ := LS8.two; obtain ⟨y08, y18, yf8⟩ := L08.two; have hz8 := hg8.size; (try simp at hz8); have zS8 := LS8.lt; have z08 := L08.lt; have hl8 := hR8.lt; clear hg8)
        | (go_at_call 33; (with_reducible refine (pick_any w.heap.size R (4 + 1 + 1 + 1) 12 _ (hR8) (by omega) (by omega) (by omega)).mono ?_); rintro e w9 ⟨r9, rfl, a9, b9, hR9, hg9⟩; have b9' := b9 (by omega); clear b9; replace hR9 := hR9.to (p' := 4 + 1 + 1 + 1 + 1) (by omega); have LS9 := Loc.carry LS8 (fun h => by ((repeat (first | with_reducible exact h | with_reducible refine Loc.drew ?_ | with_reducible refine Loc.drewN ?_ _ | with_reducible refine Loc.alloc ?_ _)); done)) hg9 (by omega); have L09 := Loc.carry L08 (fun h => by ((repeat (first | with_reducible exact h | with_reducible refine Loc.drew ?_ | with_reducible refine Loc.drewN ?_ _ | with_reducible refine Loc.alloc ?_ _)); done)) hg9 (by omega); have HB9 : Hid (Below w.heap.size w w9) := Lib.hid (below_of_grown (by repeat (first | with_reducible exact HB8.out | with_reducible exact Below.refl _ _ | with_reducible refine below_drewN ?_ _ | with_reducible refine Below.drew ?_ | with_reducible refine Below.alloc ?_ ?_ _ | with_reducible refine Below.setCell ?_ ?_ _ | (with_reducible refine Below.next ?_ (by assumption)) | ((with_reducible refine Below.far' (by assumption) ?_ ?_ ?_); (focus (first | omega | (simp; omega) | (simp; done))); (focus (first | omega | (simp; omega) | (simp; done)))) | omega | (focus (simp; omega)) | (focus (simp; done)))) hg9 (by first | omega | (focus (simp; omega)) | (focus (simp; done))) (by omega)); obtain ⟨x09, x19, xf9⟩ := LS9.two; obtain ⟨y09, y19, yf9⟩ := L09.two; have hz9 := hg9.size; (try simp at hz9); have zS9 := LS9.lt; have z09 := L09.lt; have hl9 := hR9.lt; clear hg9; obtain ⟨d9, e9, d90, d91⟩ : ∃ d9, r9 / 11 = d9 ∧ 0 ≤ d9 ∧ d9 ≤ 1 := (⟨_, rfl, by omega, by omega⟩); have t9 : r9.tdiv 11 = d9 := (by rw [Int.tdiv_eq_ediv_of_nonneg a9, e9]); have hw9 : IntKind.i64.wrap d9 = d9 := (IntWalk.i64_in _ (by omega)); have hw92 : IntKind.i64.wrap (r8 - d9) = r8 - d9 := (IntWalk.i64_in _ (by omega))))
    all_goals
      clear hw6 hw7 hw72 hw73 hw9 hw92 t7 t9 e7 e9
      go_wp2
      refine bodyPost_ret (v := .tuple #[.agg #[.int .i64 b, .int .i64 r4], .int .i64 (r4 + r6 - d7 * 50), .int .i64 (r8 - d9), .int .i64 r2]) (by simp [results, Try.results18, go_sem, *]; done) rfl ?_
      exact ⟨⟨b, r4⟩, _, _, _, rfl, (by first | omega | (focus (simp; omega)) | (focus (simp; done))), (by first | omega | (focus (simp; omega)) | (focus (simp; done))), (by first | omega | (focus (simp; omega)) | (focus (simp; done))), (by first | omega | (focus (simp; omega)) | (focus (simp; done))), by omega, by omega, by omega, by omega, by omega, by omega, (by repeat (first | with_reducible exact HB9.out | with_reducible exact Below.refl _ _ | with_reducible refine below_drewN ?_ _ | with_reducible refine Below.drew ?_ | with_reducible refine Below.alloc ?_ ?_ _ | with_reducible refine Below.setCell ?_ ?_ _ | (with_reducible refine Below.next ?_ (by assumption)) | ((with_reducible refine Below.far' (by assumption) ?_ ?_ ?_); (focus (first | omega | (simp; omega) | (simp; done))); (focus (first | omega | (simp; omega) | (simp; done)))) | omega | (focus (simp; omega)) | (focus (simp; done))))⟩
  · have LS2 := LS.set 0 (.int .i64 (r2 + 1))
    simp only [List.set_cons_zero] at LS2
    obtain ⟨x0, x1, xf⟩ := LS.two
    obtain ⟨y0, y1, yf⟩ := L0.two
    go_wp2_with fail
    obtain ⟨wq, hwq⟩ : ∃ wq, wq = w5.setCell ⟨w4.heap.size, 0, none⟩ (.int .i64 (r2 + 1)) := ⟨_, rfl⟩
    rw [← hwq] at LS2
    rw [← hwq]
    have hRq : Rdr wq 60 w.heap.size R 4 := by rw [hwq]; exact (by ((repeat (first | with_reducible assumption | with_reducible refine Rdr.drew ?_ | with_reducible refine Rdr.drewN ?_ _ | with_reducible refine Rdr.alloc ?_ _ | with_reducible refine Rdr.other ?_ _ _ ?_ ?_ | omega)); done))
    have HBq : Hid (Below w.heap.size w wq) := Lib.hid (by rw [hwq]; exact (by repeat (first | with_reducible exact HB5.out | with_reducible exact Below.refl _ _ | with_reducible refine below_drewN ?_ _ | with_reducible refine Below.drew ?_ | with_reducible refine Below.alloc ?_ ?_ _ | with_reducible refine Below.setCell ?_ ?_ _ | (with_reducible refine Below.next ?_ (by assumption)) | ((with_reducible refine Below.far' (by assumption) ?_ ?_ ?_); (focus (first | omega | (simp; omega) | (simp; done))); (focus (first | omega | (simp; omega) | (simp; done)))) | omega | (focus (simp; omega)) | (focus (simp; done)))))
    have L0q : Loc wq w.heap.size [.int .i64 0, .int .i64 0] := by rw [hwq]; exact Loc.other' (p := ⟨w4.heap.size, 0, none⟩) (by simp; omega) L0 _
    clear hwq x0 x1 xf y0 y1 yf LS L0 HB5 hR5
    have LS := LS2
    have L0 := L0q
    have HB5 := HBq
    have hR5 := hRq
    have zS5 := LS.lt
    have z05 := L0.lt
    have hR5l := hR5.lt
    clear LS2 L0q HBq hRq
    obtain ⟨x0, x1, xf⟩ := LS.two
    obtain ⟨y0, y1, yf⟩ := L0.two
    go_region_held3 (fun w' => w'.cell? ⟨w4.heap.size, 0, none⟩ = some (.int .i64 (r2 + 1)) ∧ w'.cell? ⟨w4.heap.size, 1, none⟩ = some (.int .i64 r4)) (first | go_keep | (refine ⟨?_, ?_⟩ <;> (simp [go_sem, *]; done)))
      (first
        | (go_at_call 33; (with_reducible refine (pick_any w.heap.size R (4) 20 _ (Rdr.drew hR5) (by omega) (by omega) (by omega)).mono ?_); rintro e w6 ⟨r6, rfl, a6, b6, hR6, hg6⟩; have b6' := b6 (by omega); clear b6; replace hR6 := hR6.to (p' := 4 + 1) (by omega); have LS6 := Loc.carry LS (fun h => by ((repeat (first | with_reducible exact h | with_reducible refine Loc.drew ?_ | with_reducible refine Loc.drewN ?_ _ | with_reducible refine Loc.alloc ?_ _)); done)) hg6 (by omega); have L06 := Loc.carry L0 (fun h => by ((repeat (first | with_reducible exact h | with_reducible refine Loc.drew ?_ | with_reducible refine Loc.drewN ?_ _ | with_reducible refine Loc.alloc ?_ _)); done)) hg6 (by omega); have HB6 : Hid (Below w.heap.size w w6) := Lib.hid (below_of_grown (by repeat (first | with_reducible exact HB5.out | with_reducible exact Below.refl _ _ | with_reducible refine below_drewN ?_ _ | with_reducible refine Below.drew ?_ | with_reducible refine Below.alloc ?_ ?_ _ | with_reducible refine Below.setCell ?_ ?_ _ | (with_reducible refine Below.next ?_ (by assumption)) | ((with_reducible refine Below.far' (by assumption) ?_ ?_ ?_); (focus (first | omega | (simp; omega) | (simp; done))); (focus (first | omega | (simp; omega) | (simp; done)))) | omega | (focus (simp; omega)) | (focus (simp; done)))) hg6 (by first | omega | (focus (simp; omega)) | (focus (simp; done))) (by omega)); obtain ⟨x06, x16, xf6⟩ := LS6.two; obtain ⟨y06, y16, yf6⟩ := L06.two; have hz6 := hg6.size; (try simp at hz6); have zS6 := LS6.lt; have z06 := L06.lt; have hl6 := hR6.lt; clear hg6; have hw6 : IntKind.i64.wrap (r4 + r6) = r4 + r6 := (IntWalk.i64_in _ (by omega)))
        | (go_at_call 33; (with_reducible refine (pick_any w.heap.size R (4 + 1) 9 _ (hR6) (by omega) (by omega) (by omega)).mono ?_); rintro e w7 ⟨r7, rfl, a7, b7, hR7, hg7⟩; have b7' := b7 (by omega); clear b7; replace hR7 := hR7.to (p' := 4 + 1 + 1) (by omega); have LS7 := Loc.carry LS6 (fun h => by ((repeat (first | with_reducible exact h | with_reducible refine Loc.drew ?_ | with_reducible refine Loc.drewN ?_ _ | with_reducible refine Loc.alloc ?_ _)); done)) hg7 (by omega); have L07 := Loc.carry L06 (fun h => by ((repeat (first | with_reducible exact h | with_reducible refine Loc.drew ?_ | with_reducible refine Loc.drewN ?_ _ | with_reducible refine Loc.alloc ?_ _)); done)) hg7 (by omega); have HB7 : Hid (Below w.heap.size w w7) := Lib.hid (below_of_grown (by repeat (first | with_reducible exact HB6.out | with_reducible exact Below.refl _ _ | with_reducible refine below_drewN ?_ _ | with_reducible refine Below.drew ?_ | with_reducible refine Below.alloc ?_ ?_ _ | with_reducible refine Below.setCell ?_ ?_ _ | (with_reducible refine Below.next ?_ (by assumption)) | ((with_reducible refine Below.far' (by assumption) ?_ ?_ ?_); (focus (first | omega | (simp; omega) | (simp; done))); (focus (first | omega | (simp; omega) | (simp; done)))) | omega | (focus (simp; omega)) | (focus (simp; done)))) hg7 (by first | omega | (focus (simp; omega)) | (focus (simp; done))) (by omega)); obtain ⟨x07, x17, xf7⟩ := LS7.two; obtain ⟨y07, y17, yf7⟩ := L07.two; have hz7 := hg7.size; (try simp at hz7); have zS7 := LS7.lt; have z07 := L07.lt; have hl7 := hR7.lt; clear hg7; obtain ⟨d7, e7, d70, d71⟩ : ∃ d7, r7 / 8 = d7 ∧ 0 ≤ d7 ∧ d7 ≤ 1 := (⟨_, rfl, by omega, by omega⟩); have t7 : r7.tdiv 8 = d7 := (by rw [Int.tdiv_eq_ediv_of_nonneg a7, e7]); have hw7 : IntKind.i64.wrap d7 = d7 := (IntWalk.i64_in _ (by omega)); have hw72 : IntKind.i64.wrap (d7 * 50) = d7 * 50 := (IntWalk.i64_in _ (by omega)); have hw73 : IntKind.i64.wrap (r4 + r6 - d7 * 50) = r4 + r6 - d7 * 50 := (IntWalk.i64_in _ (by omega)))
        | (go_at_call 33; (with_reducible refine (pick_any w.heap.size R (4 + 1 + 1) 12 _ (hR7) (by omega) (by omega) (by omega)).mono ?_); rintro e w8 ⟨r8, rfl, a8, b8, hR8, hg8⟩; have b8' := b8 (by omega); clear b8; replace hR8 := hR8.to (p' := 4 + 1 + 1 + 1) (by omega); have LS8 := Loc.carry LS7 (fun h => by ((repeat (first | with_reducible exact h | with_reducible refine Loc.drew ?_ | with_reducible refine Loc.drewN ?_ _ | with_reducible refine Loc.alloc ?_ _)); done)) hg8 (by omega); have L08 := Loc.carry L07 (fun h => by ((repeat (first | with_reducible exact h | with_reducible refine Loc.drew ?_ | with_reducible refine Loc.drewN ?_ _ | with_reducible refine Loc.alloc ?_ _)); done)) hg8 (by omega); have HB8 : Hid (Below w.heap.size w w8) := Lib.hid (below_of_grown (by repeat (first | with_reducible exact HB7.out | with_reducible exact Below.refl _ _ | with_reducible refine below_drewN ?_ _ | with_reducible refine Below.drew ?_ | with_reducible refine Below.alloc ?_ ?_ _ | with_reducible refine Below.setCell ?_ ?_ _ | (with_reducible refine Below.next ?_ (by assumption)) | ((with_reducible refine Below.far' (by assumption) ?_ ?_ ?_); (focus (first | omega | (simp; omega) | (simp; done))); (focus (first | omega | (simp; omega) | (simp; done)))) | omega | (focus (simp; omega)) | (focus (simp; done)))) hg8 (by first | omega | (focus (simp; omega)) | (focus (simp; done))) (by omega)); obtain ⟨x08, x18, xf8⟩ := LS8.two; obtain ⟨y08, y18, yf8⟩ := L08.two; have hz8 := hg8.size; (try simp at hz8); have zS8 := LS8.lt; have z08 := L08.lt; have hl8 := hR8.lt; clear hg8)
        | (go_at_call 33; (with_reducible refine (pick_any w.heap.size R (4 + 1 + 1 + 1) 12 _ (hR8) (by omega) (by omega) (by omega)).mono ?_); rintro e w9 ⟨r9, rfl, a9, b9, hR9, hg9⟩; have b9' := b9 (by omega); clear b9; replace hR9 := hR9.to (p' := 4 + 1 + 1 + 1 + 1) (by omega); have LS9 := Loc.carry LS8 (fun h => by ((repeat (first | with_reducible exact h | with_reducible refine Loc.drew ?_ | with_reducible refine Loc.drewN ?_ _ | with_reducible refine Loc.alloc ?_ _)); done)) hg9 (by omega); have L09 := Loc.carry L08 (fun h => by ((repeat (first | with_reducible exact h | with_reducible refine Loc.drew ?_ | with_reducible refine Loc.drewN ?_ _ | with_reducible refine Loc.alloc ?_ _)); done)) hg9 (by omega); have HB9 : Hid (Below w.heap.size w w9) := Lib.hid (below_of_grown (by repeat (first | with_reducible exact HB8.out | with_reducible exact Below.refl _ _ | with_reducible refine below_drewN ?_ _ | with_reducible refine Below.drew ?_ | with_reducible refine Below.alloc ?_ ?_ _ | with_reducible refine Below.setCell ?_ ?_ _ | (with_reducible refine Below.next ?_ (by assumption)) | ((with_reducible refine Below.far' (by assumption) ?_ ?_ ?_); (focus (first | omega | (simp; omega) | (simp; done))); (focus (first | omega | (simp; omega) | (simp; done)))) | omega | (focus (simp; omega)) | (focus (simp; done)))) hg9 (by first | omega | (focus (simp; omega)) | (focus (simp; done))) (by omega)); obtain ⟨x09, x19, xf9⟩ := LS9.two; obtain ⟨y09, y19, yf9⟩ := L09.two; have hz9 := hg9.size; (try simp at hz9); have zS9 := LS9.lt; have z09 := L09.lt; have hl9 := hR9.lt; clear hg9; obtain ⟨d9, e9, d90, d91⟩ : ∃ d9, r9 / 11 = d9 ∧ 0 ≤ d9 ∧ d9 ≤ 1 := (⟨_, rfl, by omega, by omega⟩); have t9 : r9.tdiv 11 = d9 := (by rw [Int.tdiv_eq_ediv_of_nonneg a9, e9]); have hw9 : IntKind.i64.wrap d9 = d9 := (IntWalk.i64_in _ (by omega)); have hw92 : IntKind.i64.wrap (r8 - d9) = r8 - d9 := (IntWalk.i64_in _ (by omega))))
    all_goals
      clear hw6 hw7 hw72 hw73 hw9 hw92 t7 t9 e7 e9
      go_wp2
      refine bodyPost_ret (v := .tuple #[.agg #[.int .i64 (r2 + 1), .int .i64 r4], .int .i64 (r4 + r6 - d7 * 50), .int .i64 (r8 - d9), .int .i64 r2]) (by simp [results, Try.results18, go_sem, *]; done) rfl ?_
      exact ⟨⟨(r2 + 1), r4⟩, _, _, _, rfl, (by first | omega | (focus (simp; omega)) | (focus (simp; done))), (by first | omega | (focus (simp; omega)) | (focus (simp; done))), (by first | omega | (focus (simp; omega)) | (focus (simp; done))), (by first | omega | (focus (simp; omega)) | (focus (simp; done))), by omega, by omega, by omega, by omega, by omega, by omega, (by repeat (first | with_reducible exact HB9.out | with_reducible exact Below.refl _ _ | with_reducible refine below_drewN ?_ _ | with_reducible refine Below.drew ?_ | with_reducible refine Below.alloc ?_ ?_ _ | with_reducible refine Below.setCell ?_ ?_ _ | (with_reducible refine Below.next ?_ (by assumption)) | ((with_reducible refine Below.far' (by assumption) ?_ ?_ ?_); (focus (first | omega | (simp; omega) | (simp; done))); (focus (first | omega | (simp; omega) | (simp; done)))) | omega | (focus (simp; omega)) | (focus (simp; done))))⟩
theorem bk_held : Try.prog.stoodInHeld 24 = false := by kernel_rfl
theorem bk_guard : Try.prog.eqGuardType Try.prog.depth 24 = false := by kernel_rfl
theorem bk_neq (p q : Bk) (w : World) : (binOp .neq 24 (.agg #[.int .i64 p.t, .int .i64 p.l]) (.agg #[.int .i64 q.t, .int .i64 q.l])).run Try.prog w = .ok (.bool (decide (p ≠ q))) w := by
  have h1 := bk_held
  have h2 : (!((p.t == q.t) && (p.l == q.l))) = decide (p ≠ q) := by
    obtain ⟨a, b⟩ := p
    obtain ⟨c, d⟩ := q
    rw [Bool.eq_iff_iff]; simp
  rw [← h2]
  simp [go_sem, h1]
  cases h3 : (p.t == q.t) <;> cases h4 : (p.l == q.l) <;> simp_all [go_sem]
theorem bk_eql (p q : Bk) (w : World) : (binOp .eql 24 (.agg #[.int .i64 p.t, .int .i64 p.l]) (.agg #[.int .i64 q.t, .int .i64 q.l])).run Try.prog w = .ok (.bool (decide (p = q))) w := by
  have h1 := bk_held
  have h2 : ((p.t == q.t) && (p.l == q.l)) = decide (p = q) := by
    obtain ⟨a, b⟩ := p
    obtain ⟨c, d⟩ := q
    rw [Bool.eq_iff_iff]; simp
  rw [← h2]
  simp [go_sem, h1]
  cases h3 : (p.t == q.t) <;> cases h4 : (p.l == q.l) <;> simp_all [go_sem]
end Go.Proofs.Ytmgbenfmhgkogaa
