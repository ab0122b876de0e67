/-
  What the draw of a disk gives. Conditions: the count of draws stays below 10^9.
-/
import Derived.Test.YtpekccmhfkeadaaBase
import Derived.Test.YtpekccmhfkeadaaNum
import Derived.Test.YtpekccmhfkeadaaInts
import Derived.Test.YtpekccmhfkeadaaApp
import Derived.Test.YtpekccmhfkeadaaIntsW
import Derived.Test.YtpekccmhfkeadaaLib
import Derived.Test.YtpekccmhfkeadaaDraw
import Derived.Test.YtpekccmhfkeadaaDrawK
import Derived.Test.YtpekccmhfkeadaaOwn
import Derived.IntWalk
namespace Go.Proofs.Ytpekccmhfkeadaa
open Go.RowKit
set_option maxHeartbeats 400000 in
theorem odd_zero (B R : Nat) (p : Int) (w : World) (_h : Rdr w 74 B R p) :
    Calls Try.prog 64 #[.pointer (some ⟨R, 0, none⟩), .int .i64 0] w fun e w' => e = .returned (.bool false) ∧ w = w' := by
  go_enter Try.func64, Try.ntmps64
  go_wp2
  go_ret
  exact ⟨rfl, rfl⟩
theorem made65 (w : World) : Row eInt (w.alloc (.cells (madeCells #[.int .i64 0] 65) 3)) w.heap.size 3 (some ⟨w.heap.size, 0, none⟩) 65 (List.replicate 65 (0 : Int)) := by
  have := made_row (E := eInt) (z := .int .i64 0) (e := 3) w 0 rfl 65 (by omega)
  simpa [show (Value.int .i64 0).cells = #[.int .i64 0] from rfl, show eInt.size = 1 from rfl] using this
/-- A drawn disk: a slice of its own with at most 65 values. -/
def DrawnDisk (w : World) (B R : Nat) (p : Int) (e : Ending) (w' : World) : Prop :=
  ∃ A c g l p', e = .returned (.slice A l.length c) ∧ w.heap.size ≤ g ∧ g ≠ R ∧ Row eInt w' g 3 A c l ∧ l.length ≤ 65 ∧ Rdr w' 74 B R p' ∧ p ≤ p' ∧ p' ≤ p + 200 ∧ w.grownBy w' (some R)
set_option maxHeartbeats 8000000 in
theorem l20Disk_any (B R : Nat) (p m n : Int) (w : World) (h : Rdr w 74 B R p) (hp0 : 0 ≤ p) (hp1 : p ≤ 100000000) (hm0 : 0 ≤ m) (hm1 : m ≤ 20) (hn1 : 0 ≤ n) (hn : n ≤ 1000000) :
    Calls Try.prog 45 #[.pointer (some ⟨R, 0, none⟩), .int .i64 m, .int .i64 n] w (DrawnDisk w B R p) := by
  have hBR := h.ge
  have hRl := h.lt
  have hmk := run_make_el el_int 65 (by omega) (by omega)
  simp only [show (Value.int .i64 0).cells = #[.int .i64 0] from rfl, show eInt.size = 1 from rfl, Nat.mul_one, show ((65 : Nat) : Int) = 65 from rfl] at hmk
  go_enter Try.func45, Try.ntmps45
  go_wp2_with fail
  refine (pick_any B R (p) (m + 1) _ (by ((repeat (first | with_reducible assumption | with_reducible refine Rdr.drew ?_ | with_reducible refine Rdr.drewN ?_ _ | with_reducible refine Rdr.alloc ?_ _ | with_reducible refine Rdr.other ?_ _ _ ?_ ?_ | omega)); done)) (by omega) (by omega) (by omega)).mono ?_
  rintro e w1 ⟨r1, rfl, a1, b1, hR1, hg1⟩
  have b1' := b1 (by omega)
  clear b1
  replace hR1 := hR1.to (p' := p + 1) (by omega)
  have hz1 := hg1.size
  (try simp at hz1)
  have hlt1 := hR1.lt
  have ne1 : w1.heap.size ≠ R := by omega
  have hrow1 : Hid (Row eInt w1 w.heap.size 3 (some ⟨w.heap.size, 0, none⟩) 0 []) := Lib.hid (Row.far' hg1 (by omega) (by repeat (first | ((with_reducible refine Row.made0 ?_); (focus (first | with_reducible rfl | omega | (simp; omega) | (simp; done)))) | with_reducible refine Row.drew ?_ | with_reducible refine Row.drewN ?_ _ | with_reducible refine Row.alloc ?_ _ | (with_reducible refine Row.below ?_ (by assumption)))))
  have hG : Hid (w.grownBy w1 (some R)) := Lib.hid (grownBy_trans (grownBy_of_below (Below.alloc (Below.refl _ _) (Nat.le_refl _) _) _) hg1)
  clear hg1
  go_wp2
  go_loopw [7, 8] (fun out kk wr => ∃ k q : Int, kk = .int .i64 k ∧ 0 ≤ k ∧ k ≤ 20 ∧ p ≤ q ∧ q + 3 * k ≤ p + 61 ∧ Rdr wr 74 B R q ∧ w.grownBy wr (some R) ∧ ∃ A1 c1 g1, ∃ lk : List Int, out = .slice A1 lk.length c1 ∧ lk.length + k ≤ 20 ∧ (g1 ≠ R ∧ w.heap.size ≤ g1 ∧ g1 < wr.heap.size) ∧ Row eInt wr g1 3 A1 c1 lk) (fun _ kk _ => (intOf kk).toNat)
  case atStart => exact ⟨r1, p + 1, rfl, by omega, by omega, by omega, by omega, hR1, hG.out, _, _, w.heap.size, [], rfl, by simp; omega, ⟨by omega, by omega, by omega⟩, hrow1.out⟩
  case round =>
    obtain ⟨k, q, rfl, k0, k1, q0, q1, hRq, hgw, A1, c1, g1, lk, rfl, hlk, ⟨hg1R, hg1w, hg1l⟩, hrow⟩ := hrel
    have hzr := hgw.size
    have hRr := hRq.lt
    have HROW := Lib.hid hrow
    have HGW := Lib.hid hgw
    clear hrow hgw hrow1 hG
    by_cases hk : 0 < k
    · go_wp2_with fail
      refine (pick_any B R (q) (4) _ (by ((repeat (first | with_reducible assumption | with_reducible refine Rdr.drew ?_ | with_reducible refine Rdr.drewN ?_ _ | with_reducible refine Rdr.alloc ?_ _ | with_reducible refine Rdr.other ?_ _ _ ?_ ?_ | omega)); done)) (by omega) (by omega) (by omega)).mono ?_
      rintro e w2 ⟨r2, rfl, a2, b2, hR2, hg2⟩
      have b2' := b2 (by omega)
      clear b2
      replace hR2 := hR2.to (p' := q + 1) (by omega)
      have hz2 := hg2.size
      (try simp at hz2)
      have hlt2 := hR2.lt
      have ne2 : w2.heap.size ≠ R := by omega
      have HROW2 := Lib.hid (Row.far' hg2 hg1R HROW.out)
      have HGW2 := Lib.hid (grownBy_trans HGW.out hg2)
      clear hg2
      go_wp2_with fail
      refine (pick_any B R (q + 1) (256) _ (by ((repeat (first | with_reducible assumption | with_reducible refine Rdr.drew ?_ | with_reducible refine Rdr.drewN ?_ _ | with_reducible refine Rdr.alloc ?_ _ | with_reducible refine Rdr.other ?_ _ _ ?_ ?_ | omega)); done)) (by omega) (by omega) (by omega)).mono ?_
      rintro e w3 ⟨r3, rfl, a3, b3, hR3, hg3⟩
      have b3' := b3 (by omega)
      clear b3
      replace hR3 := hR3.to (p' := q + 1 + 1) (by omega)
      have hz3 := hg3.size
      (try simp at hz3)
      have hlt3 := hR3.lt
      have ne3 : w3.heap.size ≠ R := by omega
      have HROW3 := Lib.hid (Row.far' hg3 hg1R HROW2.out)
      have HGW3 := Lib.hid (grownBy_trans HGW2.out hg3)
      clear hg3
      have LL := Loc.newAt w3 [.int .i64 0, .int .i64 1, .int .i64 r2, .int .i64 r3, .int .i64 255] 3 (b := w3.heap.size) rfl
      go_wp2_with fail
      refine (pick_any B R (q + 1 + 1) (5) _ (by ((repeat (first | with_reducible assumption | with_reducible refine Rdr.drew ?_ | with_reducible refine Rdr.drewN ?_ _ | with_reducible refine Rdr.alloc ?_ _ | with_reducible refine Rdr.other ?_ _ _ ?_ ?_ | omega)); done)) (by omega) (by omega) (by omega)).mono ?_
      rintro e w4 ⟨r4, rfl, a4, b4, hR4, hg4⟩
      have b4' := b4 (by omega)
      clear b4
      replace hR4 := hR4.to (p' := q + 1 + 1 + 1) (by omega)
      have hz4 := hg4.size
      (try simp at hz4)
      have hlt4 := hR4.lt
      have ne4 : w4.heap.size ≠ R := by omega
      replace LL := Loc.carry LL (fun h => by ((repeat (first | with_reducible exact h | with_reducible refine Loc.drew ?_ | with_reducible refine Loc.drewN ?_ _ | with_reducible refine Loc.alloc ?_ _)); done)) hg4 (by omega)
      have HROW4 := Lib.hid (Row.far' hg4 hg1R (Row.alloc HROW3.out _))
      have HGW4 := Lib.hid (grownBy_trans (grownBy_alloc HGW3.out _) hg4)
      clear hg4
      obtain ⟨x, -, hcx⟩ := Loc.at_int (l := [0, 1, r2, r3, 255]) (Loc.lits _ LL rfl) r4 a4 (by simp; omega)
      have zL := LL.lt
      go_wp2_with (at_builtin; refine wpList_append_row (E := eInt) (A := A1) (c := c1) (g := g1) (l := lk) rfl _ _ rfl el_int rfl ?_ _ _ [x] rfl ?_ (by simp only [maxLen, List.length_cons, List.length_nil]; omega) (by simp only [List.length_cons, List.length_nil]; omega) ?_; (focus (exact (by repeat (first | with_reducible exact HROW4.out | with_reducible refine Row.drew ?_ | with_reducible refine Row.drewN ?_ _ | with_reducible refine Row.alloc ?_ _ | (with_reducible refine Row.below ?_ (by assumption)) | ((with_reducible refine Row.other ?_ ?_ _); rotate_left; (focus (first | omega | (simp; omega) | (simp; done)))) | ((with_reducible refine Row.far' (by assumption) ?_ ?_); (focus (first | omega | (simp; omega) | (simp; done)))))))); (focus (exact (by repeat (first | ((with_reducible refine Rd.lit ?_ ?_); (focus (first | with_reducible rfl | omega | (simp; omega) | (simp; done))); (focus (first | rfl | (simp; rfl) | (simp; done)))) | with_reducible refine Rd.drew ?_ | with_reducible refine Rd.drewN ?_ _ | with_reducible refine Rd.alloc ?_ _ | (with_reducible refine Rd.below ?_ (by assumption)))))); intro A6 c6 g6 w6 l6 hl6 hle1 hle2 hrow6 hg6 hgg6)
      simp only [List.length_cons, List.length_nil] at hle1 hle2
      have hz6 := hg6.size
      simp at hz6 hgg6
      have hR6 : Rdr w6 74 B R (q + 1 + 1 + 1) := Rdr.grown (by ((repeat (first | with_reducible assumption | with_reducible refine Rdr.drew ?_ | with_reducible refine Rdr.drewN ?_ _ | with_reducible refine Rdr.alloc ?_ _ | with_reducible refine Rdr.other ?_ _ _ ?_ ?_ | omega)); done)) hg6 (by omega) (by omega)
      have hg6l := hrow6.lt (by omega)
      go_roundw
      case rel => exact ⟨k - 1, q + 1 + 1 + 1, rfl, by omega, by omega, by omega, by omega, hR6, (by repeat (first | with_reducible exact HGW4.out | with_reducible refine grownBy_drew ?_ | with_reducible refine grownBy_drewN ?_ _ | with_reducible refine grownBy_alloc ?_ _ | (with_reducible refine grownBy_below ?_ (by assumption)) | ((with_reducible refine grownBy_set ?_ ?_ _ _); rotate_left; (focus (first | omega | (simp; omega) | (simp; done)))) | ((with_reducible refine grownBy_trans ?_ (by assumption)); done) | ((with_reducible refine grownBy_new (by assumption) ?_ ?_); (focus (first | omega | (simp; omega) | (simp; done)))))), A6, c6, g6, l6, rfl, by omega, ⟨by omega, by omega, by omega⟩, hrow6⟩
      case measure => simp [intOf]; omega
    · by_cases hn0 : n = 0
      · subst hn0
        go_wp2_with fail
        refine (odd_zero B R q _ (by ((repeat (first | with_reducible assumption | with_reducible refine Rdr.drew ?_ | with_reducible refine Rdr.drewN ?_ _ | with_reducible refine Rdr.alloc ?_ _ | with_reducible refine Rdr.other ?_ _ _ ?_ ?_ | omega)); done))).mono ?_
        rintro e w2 ⟨rfl, rfl⟩
        go_wp2
        go_ret
        exact ⟨A1, c1, g1, lk, q, rfl, hg1w, hg1R, HROW.out, by omega, hRq, by omega, by omega, HGW.out⟩
      · have hn1' : 1 ≤ n := by omega
        clear hn0
        go_wp2_with fail
        refine (odd_any B R (q) (n) _ (by ((repeat (first | with_reducible assumption | with_reducible refine Rdr.drew ?_ | with_reducible refine Rdr.drewN ?_ _ | with_reducible refine Rdr.alloc ?_ _ | with_reducible refine Rdr.other ?_ _ _ ?_ ?_ | omega)); done)) (by omega) (by omega) (by omega) (by omega)).mono ?_
        rintro e w2 ⟨r2, rfl, hR2, hg2⟩
        replace hR2 := hR2.to (p' := q + 1) (by omega)
        have hz2 := hg2.size
        (try simp at hz2)
        have hlt2 := hR2.lt
        have ne2 : w2.heap.size ≠ R := by omega
        have HROW2 := Lib.hid (Row.far' hg2 hg1R HROW.out)
        have HGW2 := Lib.hid (grownBy_trans HGW.out hg2)
        clear hg2
        cases r2
        · go_wp2
          go_ret
          exact ⟨A1, c1, g1, lk, _, rfl, hg1w, hg1R, HROW2.out, by omega, hR2, by omega, by omega, HGW2.out⟩
        · by_cases hl0 : 0 < lk.length
          · have hl0' : (0 : Int) < (lk.length : Int) := by omega
            go_wp2_with fail
            refine (pick_any B R (q + 1) 2 _ (by ((repeat (first | with_reducible assumption | with_reducible refine Rdr.drew ?_ | with_reducible refine Rdr.drewN ?_ _ | with_reducible refine Rdr.alloc ?_ _ | with_reducible refine Rdr.other ?_ _ _ ?_ ?_ | omega)); done)) (by omega) (by omega) (by omega)).mono ?_
            rintro e w3 ⟨r3, rfl, a3, b3, hR3, hg3⟩
            have b3' := b3 (by omega)
            clear b3
            replace hR3 := hR3.to (p' := q + 1 + 1) (by omega)
            have hz3 := hg3.size
            (try simp at hz3)
            have hlt3 := hR3.lt
            have ne3 : w3.heap.size ≠ R := by omega
            have HROW3 := Lib.hid (Row.far' hg3 hg1R HROW2.out)
            have HGW3 := Lib.hid (grownBy_trans HGW2.out hg3)
            clear hg3
            by_cases h30 : r3 = 0
            · subst h30
              go_wp2_with fail
              refine (pick_any B R (q + 1 + 1) (lk.length) _ (by ((repeat (first | with_reducible assumption | with_reducible refine Rdr.drew ?_ | with_reducible refine Rdr.drewN ?_ _ | with_reducible refine Rdr.alloc ?_ _ | with_reducible refine Rdr.other ?_ _ _ ?_ ?_ | omega)); done)) (by omega) (by omega) (by omega)).mono ?_
              rintro e w4 ⟨r4, rfl, a4, b4, hR4, hg4⟩
              have b4' := b4 (by omega)
              clear b4
              replace hR4 := hR4.to (p' := q + 1 + 1 + 1) (by omega)
              have hz4 := hg4.size
              (try simp at hz4)
              have hlt4 := hR4.lt
              have ne4 : w4.heap.size ≠ R := by omega
              have HROW4 := Lib.hid (Row.far' hg4 hg1R HROW3.out)
              have HGW4 := Lib.hid (grownBy_trans HGW3.out hg4)
              clear hg4
              have LL := Loc.newAt w4 [.int .i64 (-1), .int .i64 256] 3 (b := w4.heap.size) rfl
              go_wp2_with fail
              refine (pick_any B R (q + 1 + 1 + 1) (2) _ (by ((repeat (first | with_reducible assumption | with_reducible refine Rdr.drew ?_ | with_reducible refine Rdr.drewN ?_ _ | with_reducible refine Rdr.alloc ?_ _ | with_reducible refine Rdr.other ?_ _ _ ?_ ?_ | omega)); done)) (by omega) (by omega) (by omega)).mono ?_
              rintro e w5 ⟨r5, rfl, a5, b5, hR5, hg5⟩
              have b5' := b5 (by omega)
              clear b5
              replace hR5 := hR5.to (p' := q + 1 + 1 + 1 + 1) (by omega)
              have hz5 := hg5.size
              (try simp at hz5)
              have hlt5 := hR5.lt
              have ne5 : w5.heap.size ≠ R := by omega
              replace LL := Loc.carry LL (fun h => by ((repeat (first | with_reducible exact h | with_reducible refine Loc.drew ?_ | with_reducible refine Loc.drewN ?_ _ | with_reducible refine Loc.alloc ?_ _)); done)) hg5 (by omega)
              have HROW5 := Lib.hid (Row.far' hg5 hg1R (Row.alloc HROW4.out _))
              have HGW5 := Lib.hid (grownBy_trans (grownBy_alloc HGW4.out _) hg5)
              clear hg5
              obtain ⟨x, -, hcx⟩ := Loc.at_int (l := [-1, 256]) (Loc.lits _ LL rfl) r5 a5 (by simp; omega)
              have zL := LL.lt
              obtain ⟨j, rfl⟩ := Int.eq_ofNat_of_zero_le a4
              have hjl : j < lk.length := by omega
              obtain ⟨rfl, hgl, hfz, hcc⟩ := HROW5.out.int hl0
              have hcj := hcc j hjl
              have hfzj := hfz j
              have HSET := Lib.hid (HROW5.out.setInt (k := j) hjl x)
              clear hcc hfz
              go_wp2
              go_ret
              exact ⟨some ⟨g1, 0, none⟩, c1, g1, lk.set j x, q + 1 + 1 + 1 + 1, by simp, hg1w, hg1R, HSET.out, by simp; omega, (by ((repeat (first | with_reducible assumption | with_reducible refine Rdr.drew ?_ | with_reducible refine Rdr.drewN ?_ _ | with_reducible refine Rdr.alloc ?_ _ | with_reducible refine Rdr.other ?_ _ _ ?_ ?_ | omega)); done)), by omega, by omega, (by repeat (first | with_reducible exact HGW5.out | with_reducible refine grownBy_drew ?_ | with_reducible refine grownBy_drewN ?_ _ | with_reducible refine grownBy_alloc ?_ _ | (with_reducible refine grownBy_below ?_ (by assumption)) | ((with_reducible refine grownBy_set ?_ ?_ _ _); rotate_left; (focus (first | omega | (simp; omega) | (simp; done)))) | ((with_reducible refine grownBy_trans ?_ (by assumption)); done) | ((with_reducible refine grownBy_new (by assumption) ?_ ?_); (focus (first | omega | (simp; omega) | (simp; done))))))⟩
            · have h30' : (r3 == 0) = false := by simp [h30]
              clear h30
              go_wp2
              go_ret
              exact ⟨some ⟨w3.heap.size, 0, none⟩, 65, w3.heap.size, List.replicate 65 0, q + 1 + 1, by simp, by omega, by omega, made65 w3, by simp, (by ((repeat (first | with_reducible assumption | with_reducible refine Rdr.drew ?_ | with_reducible refine Rdr.drewN ?_ _ | with_reducible refine Rdr.alloc ?_ _ | with_reducible refine Rdr.other ?_ _ _ ?_ ?_ | omega)); done)), by omega, by omega, (by repeat (first | with_reducible exact HGW3.out | with_reducible refine grownBy_drew ?_ | with_reducible refine grownBy_drewN ?_ _ | with_reducible refine grownBy_alloc ?_ _ | (with_reducible refine grownBy_below ?_ (by assumption)) | ((with_reducible refine grownBy_set ?_ ?_ _ _); rotate_left; (focus (first | omega | (simp; omega) | (simp; done)))) | ((with_reducible refine grownBy_trans ?_ (by assumption)); done) | ((with_reducible refine grownBy_new (by assumption) ?_ ?_); (focus (first | omega | (simp; omega) | (simp; done))))))⟩
          · have hl0' : ¬ (0 : Int) < (lk.length : Int) := by omega
            go_wp2
            go_ret
            exact ⟨some ⟨w2.heap.size, 0, none⟩, 65, w2.heap.size, List.replicate 65 0, q + 1, by simp, by omega, by omega, made65 w2, by simp, (by ((repeat (first | with_reducible assumption | with_reducible refine Rdr.drew ?_ | with_reducible refine Rdr.drewN ?_ _ | with_reducible refine Rdr.alloc ?_ _ | with_reducible refine Rdr.other ?_ _ _ ?_ ?_ | omega)); done)), by omega, by omega, (by repeat (first | with_reducible exact HGW2.out | with_reducible refine grownBy_drew ?_ | with_reducible refine grownBy_drewN ?_ _ | with_reducible refine grownBy_alloc ?_ _ | (with_reducible refine grownBy_below ?_ (by assumption)) | ((with_reducible refine grownBy_set ?_ ?_ _ _); rotate_left; (focus (first | omega | (simp; omega) | (simp; done)))) | ((with_reducible refine grownBy_trans ?_ (by assumption)); done) | ((with_reducible refine grownBy_new (by assumption) ?_ ?_); (focus (first | omega | (simp; omega) | (simp; done))))))⟩
/-- The draw of a disk for ShareDisk. -/
def FreshDisk (w : World) (e : Ending) (w' : World) : Prop :=
  ∃ A c g l, e = .returned (.slice A l.length c) ∧ w.heap.size ≤ g ∧ Row eInt w' g 3 A c l ∧ l.length ≤ 65 ∧ Below w.heap.size w w'
set_option maxHeartbeats 1000000 in
theorem drawShareDisk_any (A : Option Addr) (c : Nat) (l : List Int) (w : World) (hl : l.length ≤ c) (hm : c ≤ maxLen) (hr : Rd eByte w A l) (hb : ∀ x ∈ l, 0 ≤ x ∧ x ≤ 255) :
    Calls Try.prog 17 #[.slice A l.length c] w (FreshDisk w) := by
  have HB := Lib.hid hb
  clear hb
  have hA : Hid (∀ b off, 0 < l.length → A = some ⟨b, off, none⟩ → b < w.heap.size) := Lib.hid fun _ _ h0 hA => hr.lt h0 hA
  go_enter Try.func17, Try.ntmps17
  go_wp2_with fail
  refine (l20Open_any A c l _ hl hm hr HB.out w.heap.size hA.out (Nat.le_refl _)).mono ?_
  rintro e w1 ⟨R, rfl, hR1, hge, hb1⟩
  have hz1 := hb1.size
  go_wp2_with fail
  refine (l20Disk_any w.heap.size R 0 12 9 _ hR1 (by omega) (by omega) (by omega) (by omega) (by omega) (by omega)).mono ?_
  rintro e w2 ⟨A2, c2, g2, l2, q, rfl, hg2, hg2R, row2, hl2, hR2, q0, q1, hgw⟩
  have hB2 : Hid (Below w.heap.size w w2) := Lib.hid (below_of_grown hb1 hgw hz1 hge)
  have HROW2 := Lib.hid row2
  clear hb1 hgw hR1 row2
  go_wp2
  go_ret
  exact ⟨A2, c2, g2, l2, rfl, by omega, HROW2.out, hl2, hB2.out⟩
end Go.Proofs.Ytpekccmhfkeadaa
