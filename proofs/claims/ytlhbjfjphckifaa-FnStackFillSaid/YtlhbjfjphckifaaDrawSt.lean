/-
  What the draws of partitions and of a cache give. Conditions: the count of draws stays below 10^9.
-/
import Derived.Test.YtlhbjfjphckifaaBase
import Derived.Test.YtlhbjfjphckifaaNum
import Derived.Test.YtlhbjfjphckifaaInts
import Derived.Test.YtlhbjfjphckifaaApp
import Derived.Test.YtlhbjfjphckifaaIntsW
import Derived.Test.YtlhbjfjphckifaaLib
import Derived.Test.YtlhbjfjphckifaaSpares
import Derived.Test.YtlhbjfjphckifaaOwn
import Derived.Test.YtlhbjfjphckifaaPart
import Derived.Test.YtlhbjfjphckifaaLine
import Derived.Test.YtlhbjfjphckifaaStack
import Derived.Test.YtlhbjfjphckifaaStackM
import Derived.Test.YtlhbjfjphckifaaStackC
import Derived.Test.YtlhbjfjphckifaaStackF
import Derived.Test.YtlhbjfjphckifaaStackS
import Derived.Test.YtlhbjfjphckifaaStackU
import Derived.Test.YtlhbjfjphckifaaDraw
import Derived.Test.YtlhbjfjphckifaaDrawK
import Derived.Test.YtlhbjfjphckifaaDrawD
import Derived.IntWalk
namespace Go.Proofs.Ytlhbjfjphckifaa
open Go.RowKit
/-- Drawn partitions, and a size. -/
def DrawnParts (w : World) (B R : Nat) (p : Int) (e : Ending) (w' : World) : Prop :=
  ∃ A c g l n p', e = .returned (.tuple #[.slice A l.length c, .int .i64 n]) ∧ w.heap.size ≤ g ∧ g ≠ R ∧ Row encPartS w' g tyPartS A c l ∧ l.length ≤ 4 ∧ (∀ y ∈ l, y.cnt ≤ 5) ∧ 0 ≤ n ∧ n ≤ 40 ∧ Rdr w' 115 B R p' ∧ p ≤ p' ∧ p' ≤ p + 20 ∧ w.grownBy w' (some R)
set_option maxHeartbeats 4000000 in
theorem l20Parts_any (B R : Nat) (p : Int) (w : World) (h : Rdr w 115 B R p) (hp0 : 0 ≤ p) (hp1 : p ≤ 100000000) :
    Calls Try.prog 105 #[.pointer (some ⟨R, 0, none⟩), .int .i64 0] w (DrawnParts w B R p) := by
  have hBR := h.ge
  have hRl := h.lt
  go_enter Try.func105, Try.ntmps105
  go_wp2_with fail
  refine (pick_any B R (p) (3) _ (by ((repeat (first | with_reducible assumption | with_reducible refine Rdr.drew ?_ | with_reducible refine Rdr.drewN ?_ _ | with_reducible refine Rdr.alloc ?_ _ | with_reducible refine Rdr.other ?_ _ _ ?_ ?_ | omega)); done)) (by omega) (by omega) (by omega)).mono ?_
  rintro e w1 ⟨r1, rfl, a1, b1, hR1, hg1⟩
  have b1' := b1 (by omega)
  clear b1
  replace hR1 := hR1.to (p' := p + 1) (by omega)
  have hz1 := hg1.size
  (try simp at hz1)
  have hlt1 := hR1.lt
  have ne1 : w1.heap.size ≠ R := by omega
  have hrow1 : Hid (Row encPartS w1 w.heap.size tyPartS (some ⟨w.heap.size, 0, none⟩) 0 []) := Lib.hid (Row.far' hg1 (by omega) (by repeat (first | ((with_reducible refine Row.made0 ?_); (focus (first | with_reducible rfl | omega | (simp; omega) | (simp; done)))) | with_reducible refine Row.drew ?_ | with_reducible refine Row.drewN ?_ _ | with_reducible refine Row.alloc ?_ _ | (with_reducible refine Row.below ?_ (by assumption)))))
  have hG1 : Hid (w.grownBy w1 (some R)) := Lib.hid (grownBy_trans (grownBy_of_below (Below.alloc (Below.refl _ _) (Nat.le_refl _) _) _) hg1)
  clear hg1
  go_wp2_with fail
  refine (pick_any B R (p + 1) (5) _ (by ((repeat (first | with_reducible assumption | with_reducible refine Rdr.drew ?_ | with_reducible refine Rdr.drewN ?_ _ | with_reducible refine Rdr.alloc ?_ _ | with_reducible refine Rdr.other ?_ _ _ ?_ ?_ | omega)); done)) (by omega) (by omega) (by omega)).mono ?_
  rintro e w2 ⟨r2, rfl, a2, b2, hR2, hg2⟩
  have b2' := b2 (by omega)
  clear b2
  replace hR2 := hR2.to (p' := p + 1 + 1) (by omega)
  have hz2 := hg2.size
  (try simp at hz2)
  have hlt2 := hR2.lt
  have ne2 : w2.heap.size ≠ R := by omega
  have hrow2 := Lib.hid (Row.far' hg2 (by omega) hrow1.out)
  have hG2 : Hid (w.grownBy w2 (some R)) := Lib.hid (grownBy_trans hG1.out hg2)
  clear hg2 hrow1 hG1
  go_wp2
  go_loopw [6, 7, 8] (fun out at_ kk wr => ∃ k q a : Int, kk = .int .i64 k ∧ at_ = .int .i64 a ∧ 0 ≤ k ∧ k ≤ 4 ∧ p ≤ q ∧ q + 2 * k ≤ p + 10 ∧ 0 ≤ a ∧ a + 7 * k ≤ 30 ∧ Rdr wr 115 B R q ∧ w.grownBy wr (some R) ∧ ∃ A1 c1 g1, ∃ lk : List Pt, out = .slice A1 lk.length c1 ∧ lk.length + k ≤ 4 ∧ Hid (∀ y ∈ lk, y.cnt ≤ 5) ∧ (g1 ≠ R ∧ w.heap.size ≤ g1 ∧ g1 < wr.heap.size) ∧ Row encPartS wr g1 tyPartS A1 c1 lk) (fun _ _ kk _ => (intOf kk).toNat)
  case atStart => exact ⟨r2, p + 1 + 1, r1, rfl, rfl, by omega, by omega, by omega, by omega, by omega, by omega, hR2, hG2.out, _, _, w.heap.size, [], rfl, by simp; omega, Lib.hid (fun _ h => nomatch h), ⟨by omega, by omega, by omega⟩, hrow2.out⟩
  case round =>
    obtain ⟨k, q, a, rfl, rfl, k0, k1, q0, q1, aa0, aa1, hRq, hgw, A1, c1, g1, lk, rfl, hlk, HC, ⟨hg1R, hg1w, hg1l⟩, hrow⟩ := hrel
    have hzr := hgw.size
    have hRr := hRq.lt
    have HROW := Lib.hid hrow
    have HGW := Lib.hid hgw
    clear hrow hgw hrow2 hG2
    by_cases hk : 0 < k
    · go_wp2_with fail
      refine (pick_any B R (q) (5) _ (by ((repeat (first | with_reducible assumption | with_reducible refine Rdr.drew ?_ | with_reducible refine Rdr.drewN ?_ _ | with_reducible refine Rdr.alloc ?_ _ | with_reducible refine Rdr.other ?_ _ _ ?_ ?_ | omega)); done)) (by omega) (by omega) (by omega)).mono ?_
      rintro e w3 ⟨r3, rfl, a3, b3, hR3, hg3⟩
      have b3' := b3 (by omega)
      clear b3
      replace hR3 := hR3.to (p' := q + 1) (by omega)
      have hz3 := hg3.size
      (try simp at hz3)
      have hlt3 := hR3.lt
      have ne3 : w3.heap.size ≠ R := by omega
      have HROW3 := Lib.hid (Row.far' hg3 hg1R HROW.out)
      have HGW3 := Lib.hid (grownBy_trans HGW.out hg3)
      clear hg3 HROW HGW
      have hw1 := IntWalk.i64_in (1 + r3) (by omega)
      have hw2 := IntWalk.i64_in (a + (1 + r3)) (by omega)
      go_wp2_with (at_builtin; go_must (refine wpList_append_row (E := encPartS) (A := A1) (c := c1) (g := g1) (l := lk) rfl _ _ rfl elPartS rfl ?_ _ _ [(⟨a, 1 + r3⟩ : Pt)] rfl ?_ (by simp only [maxLen, List.length_cons, List.length_nil]; omega) (by simp only [List.length_cons, List.length_nil]; omega) ?_; (focus (exact (by repeat (first | with_reducible exact HROW3.out | with_reducible refine Row.drew ?_ | with_reducible refine Row.drewN ?_ _ | with_reducible refine Row.alloc ?_ _ | (with_reducible refine Row.below ?_ (by assumption)) | ((with_reducible refine Row.other ?_ ?_ _); rotate_left; (focus (first | omega | (simp; omega) | (simp; done)))) | ((with_reducible refine Row.far' (by assumption) ?_ ?_); (focus (first | omega | (simp; omega) | (simp; done)))))))); (focus (exact (by repeat (first | ((with_reducible refine Rd.lit ?_ ?_); (focus (first | with_reducible rfl | omega | (simp; omega) | (simp; done))); (focus (first | rfl | (simp; rfl) | (simp; done)))) | with_reducible refine Rd.drew ?_ | with_reducible refine Rd.drewN ?_ _ | with_reducible refine Rd.alloc ?_ _ | (with_reducible refine Rd.below ?_ (by assumption)))))); intro A3 c3 g3 w6 l3 hl3 hle1 hle2 hrow3 hg6 hgg3))
      simp only [List.length_cons, List.length_nil] at hle1 hle2
      have hg3l := hrow3.lt (by omega)
      have hz6 := hg6.size
      simp at hz6 hgg3
      have hR6 : Rdr w6 115 B R (q + 1) := Rdr.grown (p := q + 1) (by ((repeat (first | with_reducible assumption | with_reducible refine Rdr.drew ?_ | with_reducible refine Rdr.drewN ?_ _ | with_reducible refine Rdr.alloc ?_ _ | with_reducible refine Rdr.other ?_ _ _ ?_ ?_ | omega)); done)) hg6 (by omega) (by omega)
      have HGW6 : Hid (w.grownBy w6 (some R)) := Lib.hid (grownBy_new hg6 (by omega) (grownBy_alloc HGW3.out _))
      have hg3R : g3 ≠ R := by omega
      have HROW6 := Lib.hid hrow3
      clear hg6 hrow3 HROW3 HGW3
      go_wp2_with fail
      refine (pick_any B R (q + 1) (3) _ (by ((repeat (first | with_reducible assumption | with_reducible refine Rdr.drew ?_ | with_reducible refine Rdr.drewN ?_ _ | with_reducible refine Rdr.alloc ?_ _ | with_reducible refine Rdr.other ?_ _ _ ?_ ?_ | omega)); done)) (by omega) (by omega) (by omega)).mono ?_
      rintro e w4 ⟨r4, rfl, a4, b4, hR4, hg4⟩
      have b4' := b4 (by omega)
      clear b4
      replace hR4 := hR4.to (p' := q + 1 + 1) (by omega)
      have hz4 := hg4.size
      (try simp at hz4)
      have hlt4 := hR4.lt
      have ne4 : w4.heap.size ≠ R := by omega
      have HROW7 := Lib.hid (Row.far' hg4 hg3R HROW6.out)
      have HGW7 := Lib.hid (grownBy_trans HGW6.out hg4)
      clear hg4 HROW6 HGW6
      have hw3 := IntWalk.i64_in (a + (1 + r3) + r4) (by omega)
      have HC3 : Hid (∀ y ∈ l3, y.cnt ≤ 5) := Lib.hid (by
        rw [hl3.out]
        intro y hy
        rcases List.mem_append.1 hy with h1 | h1
        · exact HC.out y h1
        · simp at h1; rw [h1]; simp only; omega)
      go_wp2
      go_roundw
      case rel =>
        exact ⟨k - 1, q + 1 + 1, a + (1 + r3) + r4, rfl, rfl, by omega, by omega, by omega, by omega, by omega, by omega, hR4, HGW7.out, A3, c3, g3, l3, rfl, by omega, HC3, ⟨hg3R, by omega, by omega⟩, HROW7.out⟩
      case measure => simp [intOf]; omega
    · go_wp2_with fail
      refine (pick_any B R (q) (4) _ (by ((repeat (first | with_reducible assumption | with_reducible refine Rdr.drew ?_ | with_reducible refine Rdr.drewN ?_ _ | with_reducible refine Rdr.alloc ?_ _ | with_reducible refine Rdr.other ?_ _ _ ?_ ?_ | omega)); done)) (by omega) (by omega) (by omega)).mono ?_
      rintro e w3 ⟨r3, rfl, a3, b3, hR3, hg3⟩
      have b3' := b3 (by omega)
      clear b3
      replace hR3 := hR3.to (p' := q + 1) (by omega)
      have hz3 := hg3.size
      (try simp at hz3)
      have hlt3 := hR3.lt
      have ne3 : w3.heap.size ≠ R := by omega
      have HROW3 := Lib.hid (Row.far' hg3 hg1R HROW.out)
      have HGW3 := Lib.hid (grownBy_trans HGW.out hg3)
      clear hg3 HROW HGW
      have hw1 := IntWalk.i64_in (a + r3) (by omega)
      go_wp2_with fail
      refine (odd_zero B R (q + 1) _ (by ((repeat (first | with_reducible assumption | with_reducible refine Rdr.drew ?_ | with_reducible refine Rdr.drewN ?_ _ | with_reducible refine Rdr.alloc ?_ _ | with_reducible refine Rdr.other ?_ _ _ ?_ ?_ | omega)); done))).mono ?_
      rintro e w' ⟨rfl, rfl⟩
      go_wp2
      refine bodyPost_ret (v := .tuple #[.slice A1 lk.length c1, .int .i64 (a + r3)]) (by simp [results, Try.results105, go_sem]; done) rfl ?_
      exact ⟨A1, c1, g1, lk, a + r3, q + 1, rfl, hg1w, hg1R, HROW3.out, by omega, HC.out, by omega, by omega, hR3, by omega, by omega, HGW3.out⟩
/-- A drawn cache. -/
def DrawnCache (w : World) (B R : Nat) (p : Int) (e : Ending) (w' : World) : Prop :=
  ∃ A c g l m p', e = .returned (.agg #[.slice A l.length c, .int .i64 m]) ∧ w.heap.size ≤ g ∧ g ≠ R ∧ Row encLineS w' g tyLineS A c l ∧ l.length ≤ 5 ∧ 0 ≤ m ∧ m ≤ 5 ∧ Rdr w' 115 B R p' ∧ p ≤ p' ∧ p' ≤ p + 200 ∧ w.grownBy w' (some R)
set_option maxHeartbeats 8000000 in
theorem l20Cache_any (B R : Nat) (p sz : Int) (w : World) (h : Rdr w 115 B R p) (hp0 : 0 ≤ p) (hp1 : p ≤ 200000000) (hs0 : 0 ≤ sz) (hs1 : sz ≤ 40) :
    Calls Try.prog 106 #[.pointer (some ⟨R, 0, none⟩), .int .i64 sz, .int .i64 0] w (DrawnCache w B R p) := by
  have hBR := h.ge
  have hRl := h.lt
  have L6 := Loc.new w [.slice none 0 0, .int .i64 0] 33
  go_enter Try.func106, Try.ntmps106
  go_wp2_with fail
  refine (pick_any B R (p) (5) _ (by ((repeat (first | with_reducible assumption | with_reducible refine Rdr.drew ?_ | with_reducible refine Rdr.drewN ?_ _ | with_reducible refine Rdr.alloc ?_ _ | with_reducible refine Rdr.other ?_ _ _ ?_ ?_ | omega)); done)) (by omega) (by omega) (by omega)).mono ?_
  rintro e w1 ⟨r1, rfl, a1, b1, hR1, hg1⟩
  have b1' := b1 (by omega)
  clear b1
  replace hR1 := hR1.to (p' := p + 1) (by omega)
  have hz1 := hg1.size
  (try simp at hz1)
  have hlt1 := hR1.lt
  have ne1 : w1.heap.size ≠ R := by omega
  replace L6 := Loc.carry L6 (fun h => by ((repeat (first | with_reducible exact h | with_reducible refine Loc.drew ?_ | with_reducible refine Loc.drewN ?_ _ | with_reducible refine Loc.alloc ?_ _)); done)) hg1 (by omega)
  have hG1 : Hid (w.grownBy w1 (some R)) := Lib.hid (grownBy_trans (grownBy_of_below (Below.alloc (Below.refl _ _) (Nat.le_refl _) _) _) hg1)
  clear hg1
  have hw1 := IntWalk.i64_in (1 + r1) (by omega)
  have LX := Loc.newAt w1 [.slice none 0 0, .int .i64 (1 + r1)] 33 (b := w1.heap.size) rfl
  replace L6 := Loc.alloc L6 (.cells #[.slice none 0 0, .int .i64 (1 + r1)] 33)
  have hG1' := Lib.hid (grownBy_alloc hG1.out (.cells #[.slice none 0 0, .int .i64 (1 + r1)] 33))
  have hR1' : Rdr (w1.alloc (.cells #[.slice none 0 0, .int .i64 (1 + r1)] 33)) 115 B R (p + 1) := (by ((repeat (first | with_reducible assumption | with_reducible refine Rdr.drew ?_ | with_reducible refine Rdr.drewN ?_ _ | with_reducible refine Rdr.alloc ?_ _ | with_reducible refine Rdr.other ?_ _ _ ?_ ?_ | omega)); done))
  obtain ⟨M, hM⟩ : ∃ M, M = 1 + r1 := ⟨_, rfl⟩
  rw [← hM] at LX L6 hG1' hR1'
  have HMM := Lib.hid hM
  have hM0 : 0 ≤ M := by omega
  have hM5 : M ≤ 5 := by omega
  have hwX : w.heap.size < w1.heap.size := by omega
  have hwM : IntKind.i64.wrap (1 + r1) = M := by rw [hw1, hM]
  clear hw1 hM
  go_wp2
  go_loopw [8] (fun kk wr => ∃ k q : Int, kk = .int .i64 k ∧ 0 ≤ k ∧ k ≤ sz ∧ p ≤ q ∧ q ≤ p + 1 + 4 * k ∧ Rdr wr 115 B R q ∧ w.grownBy wr (some R) ∧ Loc wr w.heap.size [.slice none 0 0, .int .i64 0] ∧ ∃ A1 c1 g1, ∃ lk : List Ln, Loc wr w1.heap.size [.slice A1 lk.length c1, .int .i64 M] ∧ (lk.length : Int) ≤ M ∧ (g1 ≠ R ∧ w.heap.size < g1 ∧ g1 ≠ w1.heap.size) ∧ Row encLineS wr g1 tyLineS A1 c1 lk) (fun kk _ => (sz - intOf kk).toNat)
  case atStart => exact ⟨0, p + 1, rfl, by omega, by omega, by omega, by omega, hR1', hG1'.out, L6, none, 0, R + w1.heap.size + 1, [], LX, by simp; omega, ⟨by omega, by omega, by omega⟩, Row.nil _ _ _⟩
  case round =>
    clear L6 LX hG1 hG1' hR1'
    obtain ⟨k, q, rfl, k0, k1, q0, q1, hRq, hgw, L6, A1, c1, g0, lk, LX, hlk, ⟨hg0R, hg0w, hg0X⟩, hrow0⟩ := hrel
    have hzr := hgw.size
    have hRr := hRq.lt
    have zX := LX.lt
    have z6 := L6.lt
    obtain ⟨g1, hrow, hpk⟩ := hrow0.pick (wr.heap.size + g0 + R + 10)
    have hg1R : g1 ≠ R := by omega
    have hg1w : w.heap.size < g1 := by omega
    have hg1X : g1 ≠ w1.heap.size := by omega
    clear hpk hrow0 hg0R hg0w hg0X
    obtain ⟨x0, x1, xf⟩ := LX.two
    have HROW := Lib.hid hrow
    have HGW := Lib.hid hgw
    have hxR : w1.heap.size ≠ R := by omega
    clear hrow hgw
    by_cases hk : k < sz
    · by_cases hm : (lk.length : Int) < M
      · go_wp2_with fail
        refine (pick_any B R (q) (3) _ (by ((repeat (first | with_reducible assumption | with_reducible refine Rdr.drew ?_ | with_reducible refine Rdr.drewN ?_ _ | with_reducible refine Rdr.alloc ?_ _ | with_reducible refine Rdr.other ?_ _ _ ?_ ?_ | omega)); done)) (by omega) (by omega) (by omega)).mono ?_
        rintro e w2 ⟨r2, rfl, a2, b2, hR2, hg2⟩
        have b2' := b2 (by omega)
        clear b2
        replace hR2 := hR2.to (p' := q + 1) (by omega)
        have hz2 := hg2.size
        (try simp at hz2)
        have hlt2 := hR2.lt
        have ne2 : w2.heap.size ≠ R := by omega
        replace L6 := Loc.carry L6 (fun h => by ((repeat (first | with_reducible exact h | with_reducible refine Loc.drew ?_ | with_reducible refine Loc.drewN ?_ _ | with_reducible refine Loc.alloc ?_ _)); done)) hg2 (by omega)
        replace LX := Loc.carry LX (fun h => by ((repeat (first | with_reducible exact h | with_reducible refine Loc.drew ?_ | with_reducible refine Loc.drewN ?_ _ | with_reducible refine Loc.alloc ?_ _)); done)) hg2 (by omega)
        have HROW2 := Lib.hid (Row.far' hg2 hg1R HROW.out)
        have HGW2 := Lib.hid (grownBy_trans HGW.out hg2)
        clear hg2 HROW HGW x0 x1 xf
        by_cases hz : r2 = 0
        · have hz' : (r2 == 0) = true := by simp [hz]
          clear hz
          go_wp2_with fail
          refine (pick_any B R (q + 1) (256) _ (by ((repeat (first | with_reducible assumption | with_reducible refine Rdr.drew ?_ | with_reducible refine Rdr.drewN ?_ _ | with_reducible refine Rdr.alloc ?_ _ | with_reducible refine Rdr.other ?_ _ _ ?_ ?_ | omega)); done)) (by omega) (by omega) (by omega)).mono ?_
          rintro e w3 ⟨r3, rfl, a3, b3, hR3, hg3⟩
          have b3' := b3 (by omega)
          clear b3
          replace hR3 := hR3.to (p' := q + 1 + 1) (by omega)
          have hz3 := hg3.size
          (try simp at hz3)
          have hlt3 := hR3.lt
          have ne3 : w3.heap.size ≠ R := by omega
          replace L6 := Loc.carry L6 (fun h => by ((repeat (first | with_reducible exact h | with_reducible refine Loc.drew ?_ | with_reducible refine Loc.drewN ?_ _ | with_reducible refine Loc.alloc ?_ _)); done)) hg3 (by omega)
          replace LX := Loc.carry LX (fun h => by ((repeat (first | with_reducible exact h | with_reducible refine Loc.drew ?_ | with_reducible refine Loc.drewN ?_ _ | with_reducible refine Loc.alloc ?_ _)); done)) hg3 (by omega)
          have HROW3 := Lib.hid (Row.far' hg3 hg1R HROW2.out)
          have HGW3 := Lib.hid (grownBy_trans HGW2.out hg3)
          clear hg3 HROW2 HGW2
          go_wp2_with fail
          refine (pick_any B R (q + 1 + 1) (2) _ (by ((repeat (first | with_reducible assumption | with_reducible refine Rdr.drew ?_ | with_reducible refine Rdr.drewN ?_ _ | with_reducible refine Rdr.alloc ?_ _ | with_reducible refine Rdr.other ?_ _ _ ?_ ?_ | omega)); done)) (by omega) (by omega) (by omega)).mono ?_
          rintro e w4 ⟨r4, rfl, a4, b4, hR4, hg4⟩
          have b4' := b4 (by omega)
          clear b4
          replace hR4 := hR4.to (p' := q + 1 + 1 + 1) (by omega)
          have hz4 := hg4.size
          (try simp at hz4)
          have hlt4 := hR4.lt
          have ne4 : w4.heap.size ≠ R := by omega
          replace L6 := Loc.carry L6 (fun h => by ((repeat (first | with_reducible exact h | with_reducible refine Loc.drew ?_ | with_reducible refine Loc.drewN ?_ _ | with_reducible refine Loc.alloc ?_ _)); done)) hg4 (by omega)
          replace LX := Loc.carry LX (fun h => by ((repeat (first | with_reducible exact h | with_reducible refine Loc.drew ?_ | with_reducible refine Loc.drewN ?_ _ | with_reducible refine Loc.alloc ?_ _)); done)) hg4 (by omega)
          have HROW4 := Lib.hid (Row.far' hg4 hg1R HROW3.out)
          have HGW4 := Lib.hid (grownBy_trans HGW3.out hg4)
          clear hg4 HROW3 HGW3
          have LY := Loc.newAt w4 [.int .i64 k, .int .i64 r3, .bool (r4 == 0)] 95 (b := w4.heap.size) rfl
          go_wp2_with fail
          refine (pick_any B R (q + 1 + 1 + 1) (2) _ (by ((repeat (first | with_reducible assumption | with_reducible refine Rdr.drew ?_ | with_reducible refine Rdr.drewN ?_ _ | with_reducible refine Rdr.alloc ?_ _ | with_reducible refine Rdr.other ?_ _ _ ?_ ?_ | omega)); done)) (by omega) (by omega) (by omega)).mono ?_
          rintro e w5 ⟨r5, rfl, a5, b5, hR5, hg5⟩
          have b5' := b5 (by omega)
          clear b5
          replace hR5 := hR5.to (p' := q + 1 + 1 + 1 + 1) (by omega)
          have hz5 := hg5.size
          (try simp at hz5)
          have hlt5 := hR5.lt
          have ne5 : w5.heap.size ≠ R := by omega
          replace L6 := Loc.carry L6 (fun h => by ((repeat (first | with_reducible exact h | with_reducible refine Loc.drew ?_ | with_reducible refine Loc.drewN ?_ _ | with_reducible refine Loc.alloc ?_ _)); done)) hg5 (by omega)
          replace LX := Loc.carry LX (fun h => by ((repeat (first | with_reducible exact h | with_reducible refine Loc.drew ?_ | with_reducible refine Loc.drewN ?_ _ | with_reducible refine Loc.alloc ?_ _)); done)) hg5 (by omega)
          replace LY := Loc.carry LY (fun h => by ((repeat (first | with_reducible exact h | with_reducible refine Loc.drew ?_ | with_reducible refine Loc.drewN ?_ _ | with_reducible refine Loc.alloc ?_ _)); done)) hg5 (by omega)
          have HROW5 := Lib.hid (Row.far' hg5 hg1R (Row.alloc HROW4.out (.cells #[.int .i64 k, .int .i64 r3, .bool (r4 == 0)] 95)))
          have HGW5 := Lib.hid (grownBy_trans (grownBy_alloc HGW4.out (.cells #[.int .i64 k, .int .i64 r3, .bool (r4 == 0)] 95)) hg5)
          clear hg5 HROW4 HGW4
          obtain ⟨x0, x1, xf⟩ := LX.two
          obtain ⟨y0, y1, y2, yf⟩ := LY.three
          have zX5 := LX.lt
          have zY5 := LY.lt
          have z65 := L6.lt
          have hl8 : lk.length ≤ 8 := by omega
          by_cases hf : r5 = 0
          · have hf' : (r5 == 0) = true := by simp [hf]
            clear hf
            have h63 : [(⟨k, r3, (r4 == 0)⟩ : Ln)].length + lk.length ≤ maxLen := by simp [maxLen]; omega
            have hby : ([(⟨k, r3, (r4 == 0)⟩ : Ln)].length + lk.length) * 24 ≤ 140737488355328 := by simp; omega
            go_wp2_with (at_builtin; go_must (refine wpList_append_row rfl _ _ rfl elLineS rfl (line_row (x := ⟨k, r3, (r4 == 0)⟩) rfl) _ _ lk rfl (Rd.alloc (Row.rd HROW5.out) _) h63 hby ?_; intro A3 c3 g3 w6 l3 hl3 hle1 hle2 hrow3 hg6 hgg3; have K6 := Loc.carry L6 (fun h => by ((repeat (first | with_reducible exact h | with_reducible refine Loc.drew ?_ | with_reducible refine Loc.drewN ?_ _ | with_reducible refine Loc.alloc ?_ _)); done)) hg6 (by first | omega | (simp; omega) | (simp; done)); have KX := Loc.carry LX (fun h => by ((repeat (first | with_reducible exact h | with_reducible refine Loc.drew ?_ | with_reducible refine Loc.drewN ?_ _ | with_reducible refine Loc.alloc ?_ _)); done)) hg6 (by first | omega | (simp; omega) | (simp; done)); obtain ⟨v0, v1, vf⟩ := KX.two))
            simp only [List.length_cons, List.length_nil] at hle1 hle2
            have hz6 := hg6.size
            simp at hz6 hgg3
            have hR6 : Rdr (w6.setCell ⟨w1.heap.size, 0, none⟩ (.slice A3 l3.length c3)) 115 B R (q + 1 + 1 + 1 + 1) := Rdr.other (Rdr.grown (p := q + 1 + 1 + 1 + 1) (by ((repeat (first | with_reducible assumption | with_reducible refine Rdr.drew ?_ | with_reducible refine Rdr.drewN ?_ _ | with_reducible refine Rdr.alloc ?_ _ | with_reducible refine Rdr.other ?_ _ _ ?_ ?_ | omega)); done)) hg6 (by omega) (by omega)) _ _ (by omega) hxR
            have HGW6 : Hid (w.grownBy (w6.setCell ⟨w1.heap.size, 0, none⟩ (.slice A3 l3.length c3)) (some R)) := Lib.hid (grownBy_set (grownBy_new hg6 (by omega) (grownBy_alloc HGW5.out _)) (by omega) _ _)
            have HROW6 : Hid (Row encLineS (w6.setCell ⟨w1.heap.size, 0, none⟩ (.slice A3 l3.length c3)) g3 tyLineS A3 c3 l3) := Lib.hid (Row.other hrow3 (by simp only; omega) _)
            have KX6 : Loc (w6.setCell ⟨w1.heap.size, 0, none⟩ (.slice A3 l3.length c3)) w1.heap.size [.slice A3 l3.length c3, .int .i64 M] := by simpa using KX.set 0 (.slice A3 l3.length c3)
            have K66 := Loc.other' (p := ⟨w1.heap.size, 0, none⟩) (by simp only; omega) K6 (.slice A3 l3.length c3)
            go_roundw
            case rel => exact ⟨k + 1, q + 1 + 1 + 1 + 1, by go_num, by omega, by omega, by omega, by omega, hR6, HGW6.out, K66, A3, c3, g3, l3, KX6, by omega, ⟨by omega, by omega, by omega⟩, HROW6.out⟩
            case measure => simp [intOf]; omega
          · have hf' : (r5 == 0) = false := by simp [hf]
            clear hf
            have h63 : lk.length + [(⟨k, r3, (r4 == 0)⟩ : Ln)].length ≤ maxLen := by simp [maxLen]; omega
            have hby : (lk.length + [(⟨k, r3, (r4 == 0)⟩ : Ln)].length) * 24 ≤ 140737488355328 := by simp; omega
            go_wp2_with (at_builtin; go_must (refine wpList_append_row rfl _ _ rfl elLineS rfl (Row.alloc HROW5.out _) _ _ [(⟨k, r3, (r4 == 0)⟩ : Ln)] rfl (Rd.lit (by simp) rfl) h63 hby ?_; intro A3 c3 g3 w6 l3 hl3 hle1 hle2 hrow3 hg6 hgg3; have K6 := Loc.carry L6 (fun h => by ((repeat (first | with_reducible exact h | with_reducible refine Loc.drew ?_ | with_reducible refine Loc.drewN ?_ _ | with_reducible refine Loc.alloc ?_ _)); done)) hg6 (by first | omega | (simp; omega) | (simp; done)); have KX := Loc.carry LX (fun h => by ((repeat (first | with_reducible exact h | with_reducible refine Loc.drew ?_ | with_reducible refine Loc.drewN ?_ _ | with_reducible refine Loc.alloc ?_ _)); done)) hg6 (by first | omega | (simp; omega) | (simp; done)); obtain ⟨v0, v1, vf⟩ := KX.two))
            simp only [List.length_cons, List.length_nil] at hle1 hle2
            have hz6 := hg6.size
            simp at hz6 hgg3
            have hR6 : Rdr (w6.setCell ⟨w1.heap.size, 0, none⟩ (.slice A3 l3.length c3)) 115 B R (q + 1 + 1 + 1 + 1) := Rdr.other (Rdr.grown (p := q + 1 + 1 + 1 + 1) (by ((repeat (first | with_reducible assumption | with_reducible refine Rdr.drew ?_ | with_reducible refine Rdr.drewN ?_ _ | with_reducible refine Rdr.alloc ?_ _ | with_reducible refine Rdr.other ?_ _ _ ?_ ?_ | omega)); done)) hg6 (by omega) (by omega)) _ _ (by omega) hxR
            have HGW6 : Hid (w.grownBy (w6.setCell ⟨w1.heap.size, 0, none⟩ (.slice A3 l3.length c3)) (some R)) := Lib.hid (grownBy_set (grownBy_new hg6 (by omega) (grownBy_alloc HGW5.out _)) (by omega) _ _)
            have HROW6 : Hid (Row encLineS (w6.setCell ⟨w1.heap.size, 0, none⟩ (.slice A3 l3.length c3)) g3 tyLineS A3 c3 l3) := Lib.hid (Row.other hrow3 (by simp only; omega) _)
            have KX6 : Loc (w6.setCell ⟨w1.heap.size, 0, none⟩ (.slice A3 l3.length c3)) w1.heap.size [.slice A3 l3.length c3, .int .i64 M] := by simpa using KX.set 0 (.slice A3 l3.length c3)
            have K66 := Loc.other' (p := ⟨w1.heap.size, 0, none⟩) (by simp only; omega) K6 (.slice A3 l3.length c3)
            go_roundw
            case rel => exact ⟨k + 1, q + 1 + 1 + 1 + 1, by go_num, by omega, by omega, by omega, by omega, hR6, HGW6.out, K66, A3, c3, g3, l3, KX6, by omega, ⟨by omega, by omega, by omega⟩, HROW6.out⟩
            case measure => simp [intOf]; omega
        · have hz' : (r2 == 0) = false := by simp [hz]
          clear hz
          go_wp2
          go_roundw
          case rel => exact ⟨k + 1, q + 1, by go_num, by omega, by omega, by omega, by omega, hR2, HGW2.out, L6, A1, c1, g1, lk, LX, hlk, ⟨hg1R, hg1w, hg1X⟩, HROW2.out⟩
          case measure => simp [intOf]; omega
      · go_wp2_with fail
        refine (odd_zero B R q _ (by ((repeat (first | with_reducible assumption | with_reducible refine Rdr.drew ?_ | with_reducible refine Rdr.drewN ?_ _ | with_reducible refine Rdr.alloc ?_ _ | with_reducible refine Rdr.other ?_ _ _ ?_ ?_ | omega)); done))).mono ?_
        rintro e w' ⟨rfl, rfl⟩
        obtain ⟨v0, v1, vf⟩ := L6.two
        go_wp2
        refine bodyPost_ret (v := .agg #[.slice A1 lk.length c1, .int .i64 M]) (by simp [results, Try.results106, go_sem, v0, v1]; done) rfl ?_
        exact ⟨A1, c1, g1, lk, M, q, rfl, by omega, hg1R, (by repeat (first | with_reducible exact HROW.out | with_reducible refine Row.drew ?_ | with_reducible refine Row.drewN ?_ _ | with_reducible refine Row.alloc ?_ _ | (with_reducible refine Row.below ?_ (by assumption)) | ((with_reducible refine Row.other ?_ ?_ _); rotate_left; (focus (first | omega | (simp; omega) | (simp; done)))) | ((with_reducible refine Row.far' (by assumption) ?_ ?_); (focus (first | omega | (simp; omega) | (simp; done)))))), by omega, by omega, by omega, (by ((repeat (first | with_reducible assumption | with_reducible refine Rdr.drew ?_ | with_reducible refine Rdr.drewN ?_ _ | with_reducible refine Rdr.alloc ?_ _ | with_reducible refine Rdr.other ?_ _ _ ?_ ?_ | omega)); done)), by omega, by omega, (by repeat (first | with_reducible exact HGW.out | with_reducible refine grownBy_drew ?_ | with_reducible refine grownBy_drewN ?_ _ | with_reducible refine grownBy_alloc ?_ _ | (with_reducible refine grownBy_below ?_ (by assumption)) | ((with_reducible refine grownBy_set ?_ ?_ _ _); rotate_left; (focus (first | omega | (simp; omega) | (simp; done)))) | ((with_reducible refine grownBy_trans ?_ (by assumption)); done) | ((with_reducible refine grownBy_new (by assumption) ?_ ?_); (focus (first | omega | (simp; omega) | (simp; done))))))⟩
    · go_wp2_with fail
      refine (odd_zero B R q _ (by ((repeat (first | with_reducible assumption | with_reducible refine Rdr.drew ?_ | with_reducible refine Rdr.drewN ?_ _ | with_reducible refine Rdr.alloc ?_ _ | with_reducible refine Rdr.other ?_ _ _ ?_ ?_ | omega)); done))).mono ?_
      rintro e w' ⟨rfl, rfl⟩
      obtain ⟨v0, v1, vf⟩ := L6.two
      go_wp2
      refine bodyPost_ret (v := .agg #[.slice A1 lk.length c1, .int .i64 M]) (by simp [results, Try.results106, go_sem, v0, v1]; done) rfl ?_
      exact ⟨A1, c1, g1, lk, M, q, rfl, by omega, hg1R, (by repeat (first | with_reducible exact HROW.out | with_reducible refine Row.drew ?_ | with_reducible refine Row.drewN ?_ _ | with_reducible refine Row.alloc ?_ _ | (with_reducible refine Row.below ?_ (by assumption)) | ((with_reducible refine Row.other ?_ ?_ _); rotate_left; (focus (first | omega | (simp; omega) | (simp; done)))) | ((with_reducible refine Row.far' (by assumption) ?_ ?_); (focus (first | omega | (simp; omega) | (simp; done)))))), by omega, by omega, by omega, (by ((repeat (first | with_reducible assumption | with_reducible refine Rdr.drew ?_ | with_reducible refine Rdr.drewN ?_ _ | with_reducible refine Rdr.alloc ?_ _ | with_reducible refine Rdr.other ?_ _ _ ?_ ?_ | omega)); done)), by omega, by omega, (by repeat (first | with_reducible exact HGW.out | with_reducible refine grownBy_drew ?_ | with_reducible refine grownBy_drewN ?_ _ | with_reducible refine grownBy_alloc ?_ _ | (with_reducible refine grownBy_below ?_ (by assumption)) | ((with_reducible refine grownBy_set ?_ ?_ _ _); rotate_left; (focus (first | omega | (simp; omega) | (simp; done)))) | ((with_reducible refine grownBy_trans ?_ (by assumption)); done) | ((with_reducible refine grownBy_new (by assumption) ?_ ?_); (focus (first | omega | (simp; omega) | (simp; done))))))⟩
end Go.Proofs.Ytlhbjfjphckifaa
