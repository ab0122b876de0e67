/-
  What the draws for the laws on granted times give. Conditions: the count of draws stays below 10^9.
-/
import Derived.Test.YtmgbenfmhgkogaaBase
import Derived.Test.YtmgbenfmhgkogaaNum
import Derived.Test.YtmgbenfmhgkogaaInts
import Derived.Test.YtmgbenfmhgkogaaApp
import Derived.Test.YtmgbenfmhgkogaaIntsW
import Derived.Test.YtmgbenfmhgkogaaLib
import Derived.Test.YtmgbenfmhgkogaaDraw
import Derived.Test.YtmgbenfmhgkogaaDrawK
import Derived.Test.YtmgbenfmhgkogaaOwn
import Derived.IntWalk
namespace Go.Proofs.Ytmgbenfmhgkogaa
open Go.RowKit
/-- Drawn times: a slice of its own with at most 15. -/
def DrawnTimes (w : World) (B R : Nat) (p : Int) (e : Ending) (w' : World) : Prop :=
  ∃ A c g l p', e = .returned (.slice A l.length c) ∧ w.heap.size ≤ g ∧ g ≠ R ∧ Row eInt w' g 3 A c l ∧ l.length ≤ 15 ∧ Rdr w' 60 B R p' ∧ p ≤ p' ∧ p' ≤ p + 100 ∧ w.grownBy w' (some R)
set_option maxHeartbeats 4000000 in
theorem l20Times_any (B R : Nat) (p n : Int) (w : World) (h : Rdr w 60 B R p) (hp0 : 0 ≤ p) (hp1 : p ≤ 100000000) (hn1 : 1 ≤ n) (hn : n ≤ 1000000) :
    Calls Try.prog 38 #[.pointer (some ⟨R, 0, none⟩), .int .i64 n] w (DrawnTimes w B R p) := by
  have hBR := h.ge
  have hRl := h.lt
  go_enter Try.func38, Try.ntmps38
  go_wp2_with fail
  refine (pick_any B R (p) (14) _ (by ((repeat (first | with_reducible assumption | with_reducible refine Rdr.drew ?_ | with_reducible refine Rdr.drewN ?_ _ | with_reducible refine Rdr.alloc ?_ _ | with_reducible refine Rdr.other ?_ _ _ ?_ ?_ | omega)); done)) (by omega) (by omega) (by omega)).mono ?_
  rintro e w1 ⟨r1, rfl, a1, b1, hR1, hg1⟩
  have b1' := b1 (by omega)
  clear b1
  replace hR1 := hR1.to (p' := p + 1) (by omega)
  have hz1 := hg1.size
  (try simp at hz1)
  have hlt1 := hR1.lt
  have ne1 : w1.heap.size ≠ R := by omega
  have hrow1 : Hid (Row eInt w1 w.heap.size 3 (some ⟨w.heap.size, 0, none⟩) 0 []) := Lib.hid (Row.far' hg1 (by omega) (by repeat (first | ((with_reducible refine Row.made0 ?_); (focus (first | with_reducible rfl | omega | (simp; omega) | (simp; done)))) | with_reducible refine Row.drew ?_ | with_reducible refine Row.drewN ?_ _ | with_reducible refine Row.alloc ?_ _ | (with_reducible refine Row.below ?_ (by assumption)))))
  have hG : Hid (w.grownBy w1 (some R)) := Lib.hid (grownBy_trans (grownBy_of_below (Below.alloc (Below.refl _ _) (Nat.le_refl _) _) _) hg1)
  go_wp2
  go_loopw [5, 6, 7] (fun out tt kk wr => ∃ k q t : Int, kk = .int .i64 k ∧ tt = .int .i64 t ∧ 0 ≤ t ∧ t + 8 * k ≤ 104 ∧ 0 ≤ k ∧ k ≤ 13 ∧ p ≤ q ∧ q + k ≤ p + 14 ∧ Rdr wr 60 B R q ∧ w.grownBy wr (some R) ∧ ∃ A1 c1 g1, ∃ lk : List Int, out = .slice A1 lk.length c1 ∧ lk.length + k ≤ 13 ∧ (g1 ≠ R ∧ w.heap.size ≤ g1 ∧ g1 < wr.heap.size) ∧ Row eInt wr g1 3 A1 c1 lk) (fun _ _ kk _ => (intOf kk).toNat)
  case atStart => exact ⟨r1, p + 1, 0, rfl, rfl, by omega, by omega, by omega, by omega, by omega, by omega, hR1, hG.out, _, _, w.heap.size, [], rfl, by simp; omega, ⟨by omega, by omega, by omega⟩, hrow1.out⟩
  case round =>
    obtain ⟨k, q, t, rfl, rfl, t0, t1, k0, k1, q0, q1, hRq, hgw, A1, c1, g1, lk, rfl, hlk, ⟨hg1R, hg1w, hg1l⟩, hrow⟩ := hrel
    have hzr := hgw.size
    have hRr := hRq.lt
    have HROW := Lib.hid hrow
    have HGW := Lib.hid hgw
    clear hrow hgw hrow1 hG
    by_cases hk : 0 < k
    · go_wp2_with fail
      refine (pick_any B R (q) (9) _ (by ((repeat (first | with_reducible assumption | with_reducible refine Rdr.drew ?_ | with_reducible refine Rdr.drewN ?_ _ | with_reducible refine Rdr.alloc ?_ _ | with_reducible refine Rdr.other ?_ _ _ ?_ ?_ | omega)); done)) (by omega) (by omega) (by omega)).mono ?_
      rintro e w2 ⟨r2, rfl, a2, b2, hR2, hg2⟩
      have b2' := b2 (by omega)
      clear b2
      replace hR2 := hR2.to (p' := q + 1) (by omega)
      have hz2 := hg2.size
      (try simp at hz2)
      have hlt2 := hR2.lt
      have ne2 : w2.heap.size ≠ R := by omega
      have HROW2 := Lib.hid (Row.far' hg2 hg1R HROW.out)
      have HGW2 := Lib.hid (grownBy_trans HGW.out hg2)
      clear hg2
      go_wp2_with (at_builtin; refine wpList_append_row (E := eInt) (A := A1) (c := c1) (g := g1) (l := lk) rfl _ _ rfl el_int rfl ?_ _ _ [t + r2] rfl ?_ (by simp only [maxLen, List.length_cons, List.length_nil]; omega) (by simp only [List.length_cons, List.length_nil]; omega) ?_; (focus (exact (by repeat (first | with_reducible exact HROW2.out | with_reducible refine Row.drew ?_ | with_reducible refine Row.drewN ?_ _ | with_reducible refine Row.alloc ?_ _ | (with_reducible refine Row.below ?_ (by assumption)) | ((with_reducible refine Row.other ?_ ?_ _); rotate_left; (focus (first | omega | (simp; omega) | (simp; done)))) | ((with_reducible refine Row.far' (by assumption) ?_ ?_); (focus (first | omega | (simp; omega) | (simp; done)))))))); (focus (exact (by repeat (first | ((with_reducible refine Rd.lit ?_ ?_); (focus (first | with_reducible rfl | omega | (simp; omega) | (simp; done))); (focus (first | rfl | (simp; rfl) | (simp; done)))) | with_reducible refine Rd.drew ?_ | with_reducible refine Rd.drewN ?_ _ | with_reducible refine Rd.alloc ?_ _ | (with_reducible refine Rd.below ?_ (by assumption)))))); intro A6 c6 g6 w6 l6 hl6 hle1 hle2 hrow6 hg6 hgg6)
      simp only [List.length_cons, List.length_nil] at hle1 hle2
      have hz6 := hg6.size
      simp at hz6 hgg6
      have hR6 : Rdr w6 60 B R (q + 1) := Rdr.grown (by ((repeat (first | with_reducible assumption | with_reducible refine Rdr.drew ?_ | with_reducible refine Rdr.drewN ?_ _ | with_reducible refine Rdr.alloc ?_ _ | with_reducible refine Rdr.other ?_ _ _ ?_ ?_ | omega)); done)) hg6 (by omega) (by omega)
      have hg6l := hrow6.lt (by omega)
      go_roundw
      case rel => exact ⟨k - 1, q + 1, t + r2, rfl, rfl, by omega, by omega, by omega, by omega, by omega, by omega, hR6, (by repeat (first | with_reducible exact HGW2.out | with_reducible refine grownBy_drew ?_ | with_reducible refine grownBy_drewN ?_ _ | with_reducible refine grownBy_alloc ?_ _ | (with_reducible refine grownBy_below ?_ (by assumption)) | ((with_reducible refine grownBy_set ?_ ?_ _ _); rotate_left; (focus (first | omega | (simp; omega) | (simp; done)))) | ((with_reducible refine grownBy_trans ?_ (by assumption)); done) | ((with_reducible refine grownBy_new (by assumption) ?_ ?_); (focus (first | omega | (simp; omega) | (simp; done)))))), A6, c6, g6, l6, rfl, by omega, ⟨by omega, by omega, by omega⟩, hrow6⟩
      case measure => simp [intOf]; omega
    · by_cases hl0 : 0 < lk.length
      · have hl0' : (0 : Int) < (lk.length : Int) := by omega
        go_wp2_with fail
        refine (odd_any B R (q) (n) _ (by ((repeat (first | with_reducible assumption | with_reducible refine Rdr.drew ?_ | with_reducible refine Rdr.drewN ?_ _ | with_reducible refine Rdr.alloc ?_ _ | with_reducible refine Rdr.other ?_ _ _ ?_ ?_ | omega)); done)) (by omega) (by omega) (by omega) (by omega)).mono ?_
        rintro e w2 ⟨r2, rfl, hR2, hg2⟩
        replace hR2 := hR2.to (p' := q + 1) (by omega)
        have hz2 := hg2.size
        (try simp at hz2)
        have hlt2 := hR2.lt
        have ne2 : w2.heap.size ≠ R := by omega
        have HROW2 := Lib.hid (Row.far' hg2 hg1R HROW.out)
        have HGW2 := Lib.hid (grownBy_trans HGW.out hg2)
        clear hg2 HROW HGW
        cases r2
        · go_wp2
          go_ret
          exact ⟨A1, c1, g1, lk, _, rfl, hg1w, hg1R, HROW2.out, by omega, hR2, by omega, by omega, HGW2.out⟩
        · go_wp2_with fail
          refine (pick_any B R (q + 1) (3) _ (by ((repeat (first | with_reducible assumption | with_reducible refine Rdr.drew ?_ | with_reducible refine Rdr.drewN ?_ _ | with_reducible refine Rdr.alloc ?_ _ | with_reducible refine Rdr.other ?_ _ _ ?_ ?_ | omega)); done)) (by omega) (by omega) (by omega)).mono ?_
          rintro e w3 ⟨r3, rfl, a3, b3, hR3, hg3⟩
          have b3' := b3 (by omega)
          clear b3
          replace hR3 := hR3.to (p' := q + 1 + 1) (by omega)
          have hz3 := hg3.size
          (try simp at hz3)
          have hlt3 := hR3.lt
          have ne3 : w3.heap.size ≠ R := by omega
          have HROW3 := Lib.hid (Row.far' hg3 hg1R HROW2.out)
          have HGW3 := Lib.hid (grownBy_trans HGW2.out hg3)
          clear hg3 HROW2 HGW2
          have hcase : r3 = 0 ∨ r3 = 1 ∨ r3 = 2 := by omega
          rcases hcase with rfl | rfl | rfl
          · obtain ⟨rfl, hgl, hfz, hcc⟩ := HROW3.out.int hl0
            have hc0 := hcc 0 hl0
            have HSET := Lib.hid (HROW3.out.setInt (k := 0) hl0 (-1))
            clear hcc
            go_wp2
            go_ret
            exact ⟨some ⟨g1, 0, none⟩, c1, g1, lk.set 0 (-1), q + 1 + 1, by simp, hg1w, hg1R, HSET.out, by simp; omega, (by ((repeat (first | with_reducible assumption | with_reducible refine Rdr.drew ?_ | with_reducible refine Rdr.drewN ?_ _ | with_reducible refine Rdr.alloc ?_ _ | with_reducible refine Rdr.other ?_ _ _ ?_ ?_ | omega)); done)), by omega, by omega, (by repeat (first | with_reducible exact HGW3.out | with_reducible refine grownBy_drew ?_ | with_reducible refine grownBy_drewN ?_ _ | with_reducible refine grownBy_alloc ?_ _ | (with_reducible refine grownBy_below ?_ (by assumption)) | ((with_reducible refine grownBy_set ?_ ?_ _ _); rotate_left; (focus (first | omega | (simp; omega) | (simp; done)))) | ((with_reducible refine grownBy_trans ?_ (by assumption)); done) | ((with_reducible refine grownBy_new (by assumption) ?_ ?_); (focus (first | omega | (simp; omega) | (simp; done))))))⟩
          · go_wp2_with (at_builtin; refine wpList_append_row (E := eInt) (A := A1) (c := c1) (g := g1) (l := lk) rfl _ _ rfl el_int rfl ?_ _ _ [100001] rfl ?_ (by simp only [maxLen, List.length_cons, List.length_nil]; omega) (by simp only [List.length_cons, List.length_nil]; omega) ?_; (focus (exact (by repeat (first | with_reducible exact HROW3.out | with_reducible refine Row.drew ?_ | with_reducible refine Row.drewN ?_ _ | with_reducible refine Row.alloc ?_ _ | (with_reducible refine Row.below ?_ (by assumption)) | ((with_reducible refine Row.other ?_ ?_ _); rotate_left; (focus (first | omega | (simp; omega) | (simp; done)))) | ((with_reducible refine Row.far' (by assumption) ?_ ?_); (focus (first | omega | (simp; omega) | (simp; done)))))))); (focus (exact (by repeat (first | ((with_reducible refine Rd.lit ?_ ?_); (focus (first | with_reducible rfl | omega | (simp; omega) | (simp; done))); (focus (first | rfl | (simp; rfl) | (simp; done)))) | with_reducible refine Rd.drew ?_ | with_reducible refine Rd.drewN ?_ _ | with_reducible refine Rd.alloc ?_ _ | (with_reducible refine Rd.below ?_ (by assumption)))))); intro A6 c6 g6 w6 l6 hl6 hle1 hle2 hrow6 hg6 hgg6)
            simp only [List.length_cons, List.length_nil] at hle1 hle2
            have hz6 := hg6.size
            simp at hz6 hgg6
            have hR6 : Rdr w6 60 B R (q + 1 + 1) := Rdr.grown (by ((repeat (first | with_reducible assumption | with_reducible refine Rdr.drew ?_ | with_reducible refine Rdr.drewN ?_ _ | with_reducible refine Rdr.alloc ?_ _ | with_reducible refine Rdr.other ?_ _ _ ?_ ?_ | omega)); done)) hg6 (by omega) (by omega)
            go_ret
            exact ⟨A6, c6, g6, l6, q + 1 + 1, rfl, by omega, by omega, hrow6, by omega, hR6, by omega, by omega, (by repeat (first | with_reducible exact HGW3.out | with_reducible refine grownBy_drew ?_ | with_reducible refine grownBy_drewN ?_ _ | with_reducible refine grownBy_alloc ?_ _ | (with_reducible refine grownBy_below ?_ (by assumption)) | ((with_reducible refine grownBy_set ?_ ?_ _ _); rotate_left; (focus (first | omega | (simp; omega) | (simp; done)))) | ((with_reducible refine grownBy_trans ?_ (by assumption)); done) | ((with_reducible refine grownBy_new (by assumption) ?_ ?_); (focus (first | omega | (simp; omega) | (simp; done))))))⟩
          · go_wp2_with (at_builtin; refine wpList_append_row (E := eInt) (A := A1) (c := c1) (g := g1) (l := lk) rfl _ _ rfl el_int rfl ?_ _ _ [(0 : Int), 0] rfl ?_ (by simp only [maxLen, List.length_cons, List.length_nil]; omega) (by simp only [List.length_cons, List.length_nil]; omega) ?_; (focus (exact (by repeat (first | with_reducible exact HROW3.out | with_reducible refine Row.drew ?_ | with_reducible refine Row.drewN ?_ _ | with_reducible refine Row.alloc ?_ _ | (with_reducible refine Row.below ?_ (by assumption)) | ((with_reducible refine Row.other ?_ ?_ _); rotate_left; (focus (first | omega | (simp; omega) | (simp; done)))) | ((with_reducible refine Row.far' (by assumption) ?_ ?_); (focus (first | omega | (simp; omega) | (simp; done)))))))); (focus (exact (by repeat (first | ((with_reducible refine Rd.lit ?_ ?_); (focus (first | with_reducible rfl | omega | (simp; omega) | (simp; done))); (focus (first | rfl | (simp; rfl) | (simp; done)))) | with_reducible refine Rd.drew ?_ | with_reducible refine Rd.drewN ?_ _ | with_reducible refine Rd.alloc ?_ _ | (with_reducible refine Rd.below ?_ (by assumption)))))); intro A6 c6 g6 w6 l6 hl6 hle1 hle2 hrow6 hg6 hgg6; have hl6p : 0 < l6.length := (by simp only [List.length_cons, List.length_nil] at hle2; omega); obtain ⟨hA6, hgl6, hfz6, hcc6⟩ := hrow6.int hl6p; subst hA6; have hc60 := hcc6 0 hl6p; have HSET := Lib.hid (hrow6.setInt (k := 0) hl6p 5); clear hcc6)
            simp only [List.length_cons, List.length_nil] at hle1 hle2
            have hz6 := hg6.size
            simp at hz6 hgg6
            have hR6 : Rdr w6 60 B R (q + 1 + 1) := Rdr.grown (by ((repeat (first | with_reducible assumption | with_reducible refine Rdr.drew ?_ | with_reducible refine Rdr.drewN ?_ _ | with_reducible refine Rdr.alloc ?_ _ | with_reducible refine Rdr.other ?_ _ _ ?_ ?_ | omega)); done)) hg6 (by omega) (by omega)
            go_ret
            exact ⟨some ⟨g6, 0, none⟩, c6, g6, l6.set 0 5, q + 1 + 1, by simp, by omega, by omega, HSET.out, by simp; omega, (by ((repeat (first | with_reducible assumption | with_reducible refine Rdr.drew ?_ | with_reducible refine Rdr.drewN ?_ _ | with_reducible refine Rdr.alloc ?_ _ | with_reducible refine Rdr.other ?_ _ _ ?_ ?_ | omega)); done)), by omega, by omega, (by repeat (first | with_reducible exact HGW3.out | with_reducible refine grownBy_drew ?_ | with_reducible refine grownBy_drewN ?_ _ | with_reducible refine grownBy_alloc ?_ _ | (with_reducible refine grownBy_below ?_ (by assumption)) | ((with_reducible refine grownBy_set ?_ ?_ _ _); rotate_left; (focus (first | omega | (simp; omega) | (simp; done)))) | ((with_reducible refine grownBy_trans ?_ (by assumption)); done) | ((with_reducible refine grownBy_new (by assumption) ?_ ?_); (focus (first | omega | (simp; omega) | (simp; done))))))⟩
      · have hl0' : ¬ (0 : Int) < (lk.length : Int) := by omega
        go_wp2
        go_ret
        exact ⟨A1, c1, g1, lk, _, rfl, hg1w, hg1R, HROW.out, by omega, hRq, by omega, by omega, HGW.out⟩
/-- times, a cost, a rate and a most -/
def FreshGrant (w : World) (e : Ending) (w' : World) : Prop :=
  ∃ A c g l x y z, e = .returned (.tuple #[.slice A l.length c, .int .i64 x, .int .i64 y, .int .i64 z]) ∧ w.heap.size ≤ g ∧ Row eInt w' g 3 A c l ∧ l.length ≤ 15 ∧ -30 ≤ x ∧ x ≤ 20 ∧ 0 ≤ y ∧ y ≤ 6 ∧ 0 ≤ z ∧ z ≤ 40 ∧ Below w.heap.size w w'
set_option maxHeartbeats 1000000 in
theorem drawGr_any (A : Option Addr) (c : Nat) (l : List Int) (w : World) (hl : l.length ≤ c) (hm : c ≤ maxLen) (hr : Rd eByte w A l) (hb : ∀ x ∈ l, 0 ≤ x ∧ x ≤ 255) :
    Calls Try.prog 27 #[.slice A l.length c] w (FreshGrant w) := by
  have HB := Lib.hid hb
  clear hb
  have hA : Hid (∀ b off, 0 < l.length → A = some ⟨b, off, none⟩ → b < w.heap.size) := Lib.hid fun _ _ h0 hA => hr.lt h0 hA
  go_enter Try.func27, Try.ntmps27
  go_wp2_with fail
  refine (l20Open_any A c l _ hl hm hr HB.out w.heap.size hA.out (Nat.le_refl _)).mono ?_
  rintro e w1 ⟨R, rfl, hR1, hge, hb1⟩
  have hz1 := hb1.size
  go_wp2_with fail
  refine (l20Times_any w.heap.size R 0 12 _ hR1 (by omega) (by omega) (by omega) (by omega)).mono ?_
  rintro e w2 ⟨A2, c2, g2, l2, q, rfl, hg2, hg2R, row2, hl2, hR2, q0, q1, hgw⟩
  have hB2 : Hid (Below w.heap.size w w2) := Lib.hid (below_of_grown hb1 hgw hz1 hge)
  have hz2 := hgw.size
  have HROW2 := Lib.hid row2
  clear hb1 hgw hR1 row2
  go_wp2_with fail
  refine (pick_any w.heap.size R (q) (20) _ (by ((repeat (first | with_reducible assumption | with_reducible refine Rdr.drew ?_ | with_reducible refine Rdr.drewN ?_ _ | with_reducible refine Rdr.alloc ?_ _ | with_reducible refine Rdr.other ?_ _ _ ?_ ?_ | omega)); done)) (by omega) (by omega) (by omega)).mono ?_
  rintro e w3 ⟨r3, rfl, a3, b3, hR3, hg3⟩
  have b3' := b3 (by omega)
  clear b3
  replace hR3 := hR3.to (p' := q + 1) (by omega)
  have hz3 := hg3.size
  (try simp at hz3)
  have hlt3 := hR3.lt
  have ne3 : w3.heap.size ≠ R := by omega
  go_wp2_with fail
  refine (pick_any w.heap.size R (q + 1) (14) _ (by ((repeat (first | with_reducible assumption | with_reducible refine Rdr.drew ?_ | with_reducible refine Rdr.drewN ?_ _ | with_reducible refine Rdr.alloc ?_ _ | with_reducible refine Rdr.other ?_ _ _ ?_ ?_ | omega)); done)) (by omega) (by omega) (by omega)).mono ?_
  rintro e w4 ⟨r4, rfl, a4, b4, hR4, hg4⟩
  have b4' := b4 (by omega)
  clear b4
  replace hR4 := hR4.to (p' := q + 1 + 1) (by omega)
  have hz4 := hg4.size
  (try simp at hz4)
  have hlt4 := hR4.lt
  have ne4 : w4.heap.size ≠ R := by omega
  have hd0 : 0 ≤ r4 / 13 := by omega
  have hd1 : r4 / 13 ≤ 1 := by omega
  go_wp2_with fail
  refine (pick_any w.heap.size R (q + 1 + 1) (6) _ (by ((repeat (first | with_reducible assumption | with_reducible refine Rdr.drew ?_ | with_reducible refine Rdr.drewN ?_ _ | with_reducible refine Rdr.alloc ?_ _ | with_reducible refine Rdr.other ?_ _ _ ?_ ?_ | omega)); done)) (by omega) (by omega) (by omega)).mono ?_
  rintro e w5 ⟨r5, rfl, a5, b5, hR5, hg5⟩
  have b5' := b5 (by omega)
  clear b5
  replace hR5 := hR5.to (p' := q + 1 + 1 + 1) (by omega)
  have hz5 := hg5.size
  (try simp at hz5)
  have hlt5 := hR5.lt
  have ne5 : w5.heap.size ≠ R := by omega
  go_wp2_with fail
  refine (pick_any w.heap.size R (q + 1 + 1 + 1) (40) _ (by ((repeat (first | with_reducible assumption | with_reducible refine Rdr.drew ?_ | with_reducible refine Rdr.drewN ?_ _ | with_reducible refine Rdr.alloc ?_ _ | with_reducible refine Rdr.other ?_ _ _ ?_ ?_ | omega)); done)) (by omega) (by omega) (by omega)).mono ?_
  rintro e w6 ⟨r6, rfl, a6, b6, hR6, hg6⟩
  have b6' := b6 (by omega)
  clear b6
  replace hR6 := hR6.to (p' := q + 1 + 1 + 1 + 1) (by omega)
  have hz6 := hg6.size
  (try simp at hz6)
  have hlt6 := hR6.lt
  have ne6 : w6.heap.size ≠ R := by omega
  have HROW4 := Lib.hid (Row.far' hg6 hg2R (Row.far' hg5 hg2R (Row.far' hg4 hg2R (Row.far' hg3 hg2R HROW2.out))))
  have HB4 := Lib.hid (below_of_grown (below_of_grown (below_of_grown (below_of_grown hB2.out hg3 (by omega) hge) hg4 (by omega) hge) hg5 (by omega) hge) hg6 (by omega) hge)
  clear hg3 hg4 hg5 hg6
  go_wp2
  refine bodyPost_ret (v := .tuple #[.slice A2 l2.length c2, .int .i64 (r3 - r4 / 13 * 30), .int .i64 r5, .int .i64 r6]) (by simp [results, Try.results27, go_sem, *]; done) rfl ?_
  exact ⟨A2, c2, g2, l2, _, _, _, rfl, by omega, HROW4.out, hl2, by omega, by omega, by omega, by omega, by omega, by omega, HB4.out⟩
end Go.Proofs.Ytmgbenfmhgkogaa
