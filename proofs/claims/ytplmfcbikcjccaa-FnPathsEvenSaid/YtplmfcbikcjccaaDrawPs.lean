/-
  What the draws for sending and failing give. Conditions: the count of draws stays below 10^9.
-/
import Derived.Test.YtplmfcbikcjccaaBase
import Derived.Test.YtplmfcbikcjccaaNum
import Derived.Test.YtplmfcbikcjccaaInts
import Derived.Test.YtplmfcbikcjccaaApp
import Derived.Test.YtplmfcbikcjccaaIntsW
import Derived.Test.YtplmfcbikcjccaaLib
import Derived.Test.YtplmfcbikcjccaaPathM
import Derived.Test.YtplmfcbikcjccaaPath
import Derived.Test.YtplmfcbikcjccaaPathC
import Derived.Test.YtplmfcbikcjccaaDraw
import Derived.Test.YtplmfcbikcjccaaDrawP
import Derived.Deep.DrawnRows
namespace Go.Proofs.Ytplmfcbikcjccaa
open Go.RowKit
attribute [local go_sem ↓] Go.wp_at_zero Go.wp_at_succ
set_option maxHeartbeats 1000000 in
theorem drawPf_any (A : Option Addr) (c : Nat) (l : List Int) (w : World) (hl : l.length ≤ c) (hm : c ≤ maxLen) (hr : Rd eByte w A l) (hb : ∀ x ∈ l, 0 ≤ x ∧ x ≤ 255) :
    Calls Try.prog 30 #[.slice A l.length c] w (FreshPathsN w) := by
  have HB := Lib.hid hb
  clear hb
  have hA : Hid (∀ b off, 0 < l.length → A = some ⟨b, off, none⟩ → b < w.heap.size) := Lib.hid fun _ _ h0 hA => hr.lt h0 hA
  go_enter Try.func30, Try.ntmps30
  go_wp2_with fail
  refine (l20Open_any A c l _ hl hm hr HB.out w.heap.size hA.out (Nat.le_refl _)).mono ?_
  rintro e w1 ⟨R, rfl, hR1, hge, hb1⟩
  have hz1 := hb1.size
  go_wp2_with fail
  refine (l20Paths_any w.heap.size R 0 12 _ hR1 (by omega) (by omega) (by omega) (by omega)).mono ?_
  rintro e w2 ⟨A2, c2, g2, l2, q, rfl, hg2, hg2R, row2, hl2, hR2, q0, q1, hgw⟩
  have hB2 : Hid (Below w.heap.size w w2) := Lib.hid (below_of_grown hb1 hgw hz1 hge)
  have hz2 := hgw.size
  have hl7 : (l2.length : Int) ≤ 7 := by omega
  have HROW2 := Lib.hid row2
  clear hb1 hgw hR1 row2
  go_wp2_with fail
  refine (pick_any w.heap.size R q (l2.length + 1) _ (by ((repeat (first | assumption | with_reducible refine Rdr.drew ?_ | with_reducible refine Rdr.drewN ?_ _ | with_reducible refine Rdr.alloc ?_ _ | with_reducible refine Rdr.other ?_ _ _ ?_ ?_ | omega)); done)) (by omega) (by omega) (by omega)).mono ?_
  rintro e w3 ⟨r3, rfl, a3, b3, hR3, hg3⟩
  have b3' := b3 (by omega)
  clear b3
  replace hR3 := hR3.to (p' := q + 1) (by omega)
  have hz3 := hg3.size
  (try simp at hz3)
  have hlt3 := hR3.lt
  have ne3 : w3.heap.size ≠ R := by omega
  go_wp2_with fail
  refine (pick_any w.heap.size R (q + 1) (12) _ (by ((repeat (first | assumption | with_reducible refine Rdr.drew ?_ | with_reducible refine Rdr.drewN ?_ _ | with_reducible refine Rdr.alloc ?_ _ | with_reducible refine Rdr.other ?_ _ _ ?_ ?_ | omega)); done)) (by omega) (by omega) (by omega)).mono ?_
  rintro e w4 ⟨r4, rfl, a4, b4, hR4, hg4⟩
  have b4' := b4 (by omega)
  clear b4
  replace hR4 := hR4.to (p' := q + 1 + 1) (by omega)
  have hz4 := hg4.size
  (try simp at hz4)
  have hlt4 := hR4.lt
  have ne4 : w4.heap.size ≠ R := by omega
  have HROW4 := Lib.hid (Row.far' hg4 hg2R (Row.far' hg3 hg2R HROW2.out))
  have hd0 : 0 ≤ r4 / 11 := by omega
  have hd1 : r4 / 11 ≤ 1 := by omega
  have HB4 := Lib.hid (below_of_grown (below_of_grown hB2.out hg3 (by omega) hge) hg4 (by omega) hge)
  clear hg3 hg4
  go_wp2
  go_ret2
  exact ⟨A2, c2, g2, l2, _, rfl, by omega, HROW4.out, hl2, by omega, by omega, HB4.out⟩
set_option maxHeartbeats 4000000 in
theorem drawPs_any (A : Option Addr) (c : Nat) (l : List Int) (w : World) (hl : l.length ≤ c) (hm : c ≤ maxLen) (hr : Rd eByte w A l) (hb : ∀ x ∈ l, 0 ≤ x ∧ x ≤ 255) :
    Calls Try.prog 28 #[.slice A l.length c] w (FreshPathsN w) := by
  have HB := Lib.hid hb
  clear hb
  have hA : Hid (∀ b off, 0 < l.length → A = some ⟨b, off, none⟩ → b < w.heap.size) := Lib.hid fun _ _ h0 hA => hr.lt h0 hA
  go_enter Try.func28, Try.ntmps28
  go_wp2_with fail
  refine (l20Open_any A c l _ hl hm hr HB.out w.heap.size hA.out (Nat.le_refl _)).mono ?_
  rintro e w1 ⟨R, rfl, hR1, hge, hb1⟩
  have hz1 := hb1.size
  go_wp2_with fail
  refine (l20Paths_any w.heap.size R 0 12 _ hR1 (by omega) (by omega) (by omega) (by omega)).mono ?_
  rintro e w2 ⟨A2, c2, g2, l2, q, rfl, hg2, hg2R, row2, hl2, hR2, q0, q1, hgw⟩
  have hB2 : Hid (Below w.heap.size w w2) := Lib.hid (below_of_grown hb1 hgw hz1 hge)
  have hz2 := hgw.size
  clear hb1 hgw hR1
  have ne2 : w2.heap.size ≠ R := by have := hR2.lt; omega
  have ne2' : w2.heap.size + 1 ≠ R := by have := hR2.lt; omega
  go_wp2_with fail
  go_region_with (first
      | (go_at_call 43; (with_reducible refine (pick_any (w.heap.size) R (q) (30) _ (by ((repeat (first | assumption | with_reducible refine Rdr.drew ?_ | with_reducible refine Rdr.drewN ?_ _ | with_reducible refine Rdr.alloc ?_ _ | with_reducible refine Rdr.other ?_ _ _ ?_ ?_ | omega)); done)) (by omega) (by omega) (by omega)).mono ?_); rintro e w3 ⟨r3, rfl, a3, b3, hR3, hg3⟩; have b3' := b3 (by omega); clear b3; replace hR3 := hR3.to (p' := q + 1) (by omega); obtain ⟨gc3, gf3⟩ := gcell hg3; have hz3 := hg3.size; (try simp at hz3); have hlt3 := hR3.lt; (try have z2_3_0 : w2.heap.size < w3.heap.size := by omega); (try have z2_3_1 : w2.heap.size < w3.heap.size + 1 := by omega); (try have z2_3_2 : w2.heap.size < w3.heap.size + 1 + 1 := by omega); have ne3 : w3.heap.size ≠ R := (by omega); have ne3' : w3.heap.size + 1 ≠ R := (by omega))
      | (go_at_call 43; (with_reducible refine (pick_any (w.heap.size) R (q + 1) (7) _ (by ((repeat (first | assumption | with_reducible refine Rdr.drew ?_ | with_reducible refine Rdr.drewN ?_ _ | with_reducible refine Rdr.alloc ?_ _ | with_reducible refine Rdr.other ?_ _ _ ?_ ?_ | omega)); done)) (by omega) (by omega) (by omega)).mono ?_); rintro e w4 ⟨r4, rfl, a4, b4, hR4, hg4⟩; have b4' := b4 (by omega); clear b4; replace hR4 := hR4.to (p' := q + 1 + 1) (by omega); obtain ⟨gc4, gf4⟩ := gcell hg4; have hz4 := hg4.size; (try simp at hz4); have hlt4 := hR4.lt; (try have z2_4_0 : w2.heap.size < w4.heap.size := by omega); (try have z2_4_1 : w2.heap.size < w4.heap.size + 1 := by omega); (try have z2_4_2 : w2.heap.size < w4.heap.size + 1 + 1 := by omega); (try have z3_4_0 : w3.heap.size < w4.heap.size := by omega); (try have z3_4_1 : w3.heap.size < w4.heap.size + 1 := by omega); (try have z3_4_2 : w3.heap.size < w4.heap.size + 1 + 1 := by omega); have ne4 : w4.heap.size ≠ R := (by omega); have ne4' : w4.heap.size + 1 ≠ R := (by omega); obtain ⟨x, hx, hv, hx0, hx3⟩ := lit_pick [0, 0, 0, 0, 1, 2, 3] r4 a4 b4' 0 3 (by decide); obtain ⟨y, hy, hw, hy0, hy3⟩ := lit_pick [r3, 500, 501, -1] x hx0 (by simp; omega) (-1) 501 (by simp; omega); simp only [List.map_cons, List.map_nil] at hx hy hv hw; have hx4 : x < 4 := (by omega)))
  all_goals
    clear hx hy hv hw gc3 gf3 gc4 gf4
    go_wp2
    go_ret2
    refine ⟨A2, c2, g2, l2, y, rfl, by omega, ?_, hl2, hy0, by omega, ?_⟩
    · exact (by repeat (first | with_reducible exact row2 | with_reducible refine Row.drew ?_ | with_reducible refine Row.drewN ?_ _ | with_reducible refine Row.alloc ?_ _ | (with_reducible refine Row.below ?_ (by assumption)) | ((with_reducible refine Row.other ?_ ?_ _); rotate_left; (focus (first | omega | (simp; omega) | (simp; done)))) | ((with_reducible refine Row.far' (by assumption) ?_ ?_); (focus (first | omega | (simp; omega) | (simp; done))))))
    · exact (by repeat (first | with_reducible exact hB2.out | with_reducible exact Below.refl _ _ | with_reducible refine below_drewN ?_ _ | with_reducible refine Below.drew ?_ | with_reducible refine Below.alloc ?_ ?_ _ | with_reducible refine Below.setCell ?_ ?_ _ | (with_reducible refine Below.next ?_ (by assumption)) | ((with_reducible refine Below.far' (by assumption) ?_ ?_ ?_); (focus (first | omega | (simp; omega) | (simp; done))); (focus (first | omega | (simp; omega) | (simp; done)))) | omega | (focus (simp; omega)) | (focus (simp; done))))
end Go.Proofs.Ytplmfcbikcjccaa
