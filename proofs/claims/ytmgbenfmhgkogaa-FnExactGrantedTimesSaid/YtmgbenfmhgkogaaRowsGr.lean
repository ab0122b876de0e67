/-
  FnExactGrantedTimes: the program's GrantedTimes returns what the reference's returns, for all arguments. No condition.
-/
import Derived.Test.YtmgbenfmhgkogaaBase
import Derived.Test.YtmgbenfmhgkogaaNum
import Derived.Test.YtmgbenfmhgkogaaInts
import Derived.Test.YtmgbenfmhgkogaaApp
import Derived.Test.YtmgbenfmhgkogaaIntsW
import Derived.Test.YtmgbenfmhgkogaaLib
import Derived.Test.YtmgbenfmhgkogaaOwn
import Derived.Test.YtmgbenfmhgkogaaSliceV
import Derived.Test.YtmgbenfmhgkogaaBoolW
import Derived.Test.YtmgbenfmhgkogaaBucket
import Derived.Test.YtmgbenfmhgkogaaGrant
import Derived.Test.YtmgbenfmhgkogaaGrantX
import Derived.Test.YtmgbenfmhgkogaaOpen
namespace Go.Proofs.Ytmgbenfmhgkogaa
open Go.RowKit Go.ChangeShapes Go.WideShapes Go.ChangeAt Go.Deep Go.Joins
namespace ExGrant
set_option maxHeartbeats 8000000 in
theorem walk (x0 : Value) (t : List Int) (cost rate most : Int) (w : World) (hr : IntsRd w x0 t) (_ : -9223372036854775808 ≤ cost ∧ cost ≤ 9223372036854775807) (_ : -9223372036854775808 ≤ rate ∧ rate ≤ 9223372036854775807) (_ : -9223372036854775808 ≤ most ∧ most ≤ 9223372036854775807) :
    Calls Try.prog 7 #[x0, .int .i64 cost, .int .i64 rate, .int .i64 most] w fun e w' => e = .returned (.bool true) ∧ Below w.heap.size w w' := by
  obtain ⟨A, c, rfl, hle⟩ : ∃ A c, x0 = .slice A t.length c ∧ t.length ≤ 9223372036854775807 := by
    obtain ⟨A, c, rfl, _, _, hm, _⟩ := hr
    unfold maxLen at hm
    exact ⟨A, c, rfl, by omega⟩
  by_cases hsz : (1048576 : Int) < t.length
  · go_enter Try.func7, Try.ntmps7
    go_wp2
    go_ret
    exact ⟨rfl, (by repeat (first | with_reducible exact Below.refl _ _ | with_reducible assumption | with_reducible refine below_drewN ?_ _ | with_reducible refine Below.drew ?_ | with_reducible refine Below.alloc ?_ ?_ _ | with_reducible refine Below.setCell ?_ ?_ _ | (with_reducible refine Below.next ?_ (by assumption)) | omega | (focus (simp; omega)) | (focus (simp; done))))⟩
  · have hs : sizeInts t ≤ 1048576 := by unfold sizeInts; omega
    obtain ⟨s, hse⟩ : ∃ s, s = grantB t cost rate most := ⟨_, rfl⟩
    have hss : sizeBools s ≤ 2097152 := by have := grantB_size t cost rate most; rw [← hse] at this; omega
    have HS := Lib.hid hse
    clear hse
    have hcs := cntBools_le s
    have hct := cntInts_le t
    have RR := Lib.hid hr
    have BB : Hid (Below w.heap.size w w) := Lib.hid (Below.refl _ _)
    go_enter Try.func7, Try.ntmps7
    go_wp2_with fail
    refine (toIntS_w _ t _ (IntsRd.below RR.out (by repeat (first | with_reducible exact Below.refl _ _ | with_reducible refine below_drewN ?_ _ | with_reducible refine Below.drew ?_ | with_reducible refine Below.alloc ?_ ?_ _ | with_reducible refine Below.setCell ?_ ?_ _ | omega | (focus (simp; omega)) | (focus (simp; done))))) (by unfold sizeInts at hs; omega)).mono ?_
    rintro e w1 ⟨y1, rfl, O1, hb1⟩
    have hz1 := hb1.size
    (try simp at hz1)
    replace RR := Lib.hid (IntsRd.below RR.out (Below.next (by repeat (first | with_reducible exact Below.refl _ _ | with_reducible refine below_drewN ?_ _ | with_reducible refine Below.drew ?_ | with_reducible refine Below.alloc ?_ ?_ _ | with_reducible refine Below.setCell ?_ ?_ _ | omega | (focus (simp; omega)) | (focus (simp; done)))) hb1))
    replace BB := Lib.hid (Below.next (W := w) (by repeat (first | with_reducible exact BB.out | with_reducible exact Below.refl _ _ | with_reducible refine below_drewN ?_ _ | with_reducible refine Below.drew ?_ | with_reducible refine Below.alloc ?_ ?_ _ | with_reducible refine Below.setCell ?_ ?_ _ | (with_reducible refine Below.next ?_ (by assumption)) | ((with_reducible refine Below.far' (by assumption) ?_ ?_ ?_); (focus (first | omega | (simp; omega) | (simp; done))); (focus (first | omega | (simp; omega) | (simp; done)))) | omega | (focus (simp; omega)) | (focus (simp; done)))) hb1)
    have H1 := Lib.hid O1
    clear O1 hb1
    go_wp2_with fail
    refine (specGrant_v y1 t cost rate most _ (IntsRd.below (SOwn.rd H1.out) (by repeat (first | with_reducible exact Below.refl _ _ | with_reducible refine below_drewN ?_ _ | with_reducible refine Below.drew ?_ | with_reducible refine Below.alloc ?_ ?_ _ | with_reducible refine Below.setCell ?_ ?_ _ | omega | (focus (simp; omega)) | (focus (simp; done))))) (by omega)).mono ?_
    rw [← HS.out]
    rintro e w2 ⟨b0, rfl, O2, hb2⟩
    have hz2 := hb2.size
    (try simp at hz2)
    replace H1 := Lib.hid (IntsOwn.below H1.out (Below.next (by repeat (first | with_reducible exact Below.refl _ _ | with_reducible refine below_drewN ?_ _ | with_reducible refine Below.drew ?_ | with_reducible refine Below.alloc ?_ ?_ _ | with_reducible refine Below.setCell ?_ ?_ _ | omega | (focus (simp; omega)) | (focus (simp; done)))) hb2))
    replace RR := Lib.hid (IntsRd.below RR.out (Below.next (by repeat (first | with_reducible exact Below.refl _ _ | with_reducible refine below_drewN ?_ _ | with_reducible refine Below.drew ?_ | with_reducible refine Below.alloc ?_ ?_ _ | with_reducible refine Below.setCell ?_ ?_ _ | omega | (focus (simp; omega)) | (focus (simp; done)))) hb2))
    replace BB := Lib.hid (Below.next (W := w) (by repeat (first | with_reducible exact BB.out | with_reducible exact Below.refl _ _ | with_reducible refine below_drewN ?_ _ | with_reducible refine Below.drew ?_ | with_reducible refine Below.alloc ?_ ?_ _ | with_reducible refine Below.setCell ?_ ?_ _ | (with_reducible refine Below.next ?_ (by assumption)) | ((with_reducible refine Below.far' (by assumption) ?_ ?_ ?_); (focus (first | omega | (simp; omega) | (simp; done))); (focus (first | omega | (simp; omega) | (simp; done)))) | omega | (focus (simp; omega)) | (focus (simp; done)))) hb2)
    have H2 := Lib.hid O2
    clear O2 hb2
    go_wp2_with fail
    refine (toIntS_w _ t _ (IntsRd.below RR.out (by repeat (first | with_reducible exact Below.refl _ _ | with_reducible refine below_drewN ?_ _ | with_reducible refine Below.drew ?_ | with_reducible refine Below.alloc ?_ ?_ _ | with_reducible refine Below.setCell ?_ ?_ _ | omega | (focus (simp; omega)) | (focus (simp; done))))) (by unfold sizeInts at hs; omega)).mono ?_
    rintro e w3 ⟨y3, rfl, O3, hb3⟩
    have hz3 := hb3.size
    (try simp at hz3)
    replace H1 := Lib.hid (IntsOwn.below H1.out (Below.next (by repeat (first | with_reducible exact Below.refl _ _ | with_reducible refine below_drewN ?_ _ | with_reducible refine Below.drew ?_ | with_reducible refine Below.alloc ?_ ?_ _ | with_reducible refine Below.setCell ?_ ?_ _ | omega | (focus (simp; omega)) | (focus (simp; done)))) hb3))
    replace H2 := Lib.hid (BoolsOwn.below H2.out (Below.next (by repeat (first | with_reducible exact Below.refl _ _ | with_reducible refine below_drewN ?_ _ | with_reducible refine Below.drew ?_ | with_reducible refine Below.alloc ?_ ?_ _ | with_reducible refine Below.setCell ?_ ?_ _ | omega | (focus (simp; omega)) | (focus (simp; done)))) hb3))
    replace RR := Lib.hid (IntsRd.below RR.out (Below.next (by repeat (first | with_reducible exact Below.refl _ _ | with_reducible refine below_drewN ?_ _ | with_reducible refine Below.drew ?_ | with_reducible refine Below.alloc ?_ ?_ _ | with_reducible refine Below.setCell ?_ ?_ _ | omega | (focus (simp; omega)) | (focus (simp; done)))) hb3))
    replace BB := Lib.hid (Below.next (W := w) (by repeat (first | with_reducible exact BB.out | with_reducible exact Below.refl _ _ | with_reducible refine below_drewN ?_ _ | with_reducible refine Below.drew ?_ | with_reducible refine Below.alloc ?_ ?_ _ | with_reducible refine Below.setCell ?_ ?_ _ | (with_reducible refine Below.next ?_ (by assumption)) | ((with_reducible refine Below.far' (by assumption) ?_ ?_ ?_); (focus (first | omega | (simp; omega) | (simp; done))); (focus (first | omega | (simp; omega) | (simp; done)))) | omega | (focus (simp; omega)) | (focus (simp; done)))) hb3)
    have H3 := Lib.hid O3
    clear O3 hb3
    go_wp2_with fail
    refine (implGrant_v y3 t cost rate most _ (IntsRd.below (SOwn.rd H3.out) (by repeat (first | with_reducible exact Below.refl _ _ | with_reducible refine below_drewN ?_ _ | with_reducible refine Below.drew ?_ | with_reducible refine Below.alloc ?_ ?_ _ | with_reducible refine Below.setCell ?_ ?_ _ | omega | (focus (simp; omega)) | (focus (simp; done))))) (by omega)).mono ?_
    rw [← HS.out]
    rintro e w4 ⟨g0, rfl, O4, hb4⟩
    have hz4 := hb4.size
    (try simp at hz4)
    replace H1 := Lib.hid (IntsOwn.below H1.out (Below.next (by repeat (first | with_reducible exact Below.refl _ _ | with_reducible refine below_drewN ?_ _ | with_reducible refine Below.drew ?_ | with_reducible refine Below.alloc ?_ ?_ _ | with_reducible refine Below.setCell ?_ ?_ _ | omega | (focus (simp; omega)) | (focus (simp; done)))) hb4))
    replace H2 := Lib.hid (BoolsOwn.below H2.out (Below.next (by repeat (first | with_reducible exact Below.refl _ _ | with_reducible refine below_drewN ?_ _ | with_reducible refine Below.drew ?_ | with_reducible refine Below.alloc ?_ ?_ _ | with_reducible refine Below.setCell ?_ ?_ _ | omega | (focus (simp; omega)) | (focus (simp; done)))) hb4))
    replace H3 := Lib.hid (IntsOwn.below H3.out (Below.next (by repeat (first | with_reducible exact Below.refl _ _ | with_reducible refine below_drewN ?_ _ | with_reducible refine Below.drew ?_ | with_reducible refine Below.alloc ?_ ?_ _ | with_reducible refine Below.setCell ?_ ?_ _ | omega | (focus (simp; omega)) | (focus (simp; done)))) hb4))
    replace RR := Lib.hid (IntsRd.below RR.out (Below.next (by repeat (first | with_reducible exact Below.refl _ _ | with_reducible refine below_drewN ?_ _ | with_reducible refine Below.drew ?_ | with_reducible refine Below.alloc ?_ ?_ _ | with_reducible refine Below.setCell ?_ ?_ _ | omega | (focus (simp; omega)) | (focus (simp; done)))) hb4))
    replace BB := Lib.hid (Below.next (W := w) (by repeat (first | with_reducible exact BB.out | with_reducible exact Below.refl _ _ | with_reducible refine below_drewN ?_ _ | with_reducible refine Below.drew ?_ | with_reducible refine Below.alloc ?_ ?_ _ | with_reducible refine Below.setCell ?_ ?_ _ | (with_reducible refine Below.next ?_ (by assumption)) | ((with_reducible refine Below.far' (by assumption) ?_ ?_ ?_); (focus (first | omega | (simp; omega) | (simp; done))); (focus (first | omega | (simp; omega) | (simp; done)))) | omega | (focus (simp; omega)) | (focus (simp; done)))) hb4)
    have H4 := Lib.hid O4
    clear O4 hb4
    go_wp2_with fail
    refine (eqBools_c g0 b0 s s _ (BoolsRd.below (BoolsOwn.rd H4.out) (by repeat (first | with_reducible exact Below.refl _ _ | with_reducible refine below_drewN ?_ _ | with_reducible refine Below.drew ?_ | with_reducible refine Below.alloc ?_ ?_ _ | with_reducible refine Below.setCell ?_ ?_ _ | omega | (focus (simp; omega)) | (focus (simp; done))))) (BoolsRd.below (BoolsOwn.rd H2.out) (by repeat (first | with_reducible exact Below.refl _ _ | with_reducible refine below_drewN ?_ _ | with_reducible refine Below.drew ?_ | with_reducible refine Below.alloc ?_ ?_ _ | with_reducible refine Below.setCell ?_ ?_ _ | omega | (focus (simp; omega)) | (focus (simp; done))))) (by omega) (by omega)).mono ?_
    rw [show decide (s = s) = true by simp]
    rintro e w5 ⟨rfl, hb5⟩
    have hz5 := hb5.size
    (try simp at hz5)
    replace H1 := Lib.hid (IntsOwn.below H1.out (Below.next (by repeat (first | with_reducible exact Below.refl _ _ | with_reducible refine below_drewN ?_ _ | with_reducible refine Below.drew ?_ | with_reducible refine Below.alloc ?_ ?_ _ | with_reducible refine Below.setCell ?_ ?_ _ | omega | (focus (simp; omega)) | (focus (simp; done)))) hb5))
    replace H2 := Lib.hid (BoolsOwn.below H2.out (Below.next (by repeat (first | with_reducible exact Below.refl _ _ | with_reducible refine below_drewN ?_ _ | with_reducible refine Below.drew ?_ | with_reducible refine Below.alloc ?_ ?_ _ | with_reducible refine Below.setCell ?_ ?_ _ | omega | (focus (simp; omega)) | (focus (simp; done)))) hb5))
    replace H3 := Lib.hid (IntsOwn.below H3.out (Below.next (by repeat (first | with_reducible exact Below.refl _ _ | with_reducible refine below_drewN ?_ _ | with_reducible refine Below.drew ?_ | with_reducible refine Below.alloc ?_ ?_ _ | with_reducible refine Below.setCell ?_ ?_ _ | omega | (focus (simp; omega)) | (focus (simp; done)))) hb5))
    replace H4 := Lib.hid (BoolsOwn.below H4.out (Below.next (by repeat (first | with_reducible exact Below.refl _ _ | with_reducible refine below_drewN ?_ _ | with_reducible refine Below.drew ?_ | with_reducible refine Below.alloc ?_ ?_ _ | with_reducible refine Below.setCell ?_ ?_ _ | omega | (focus (simp; omega)) | (focus (simp; done)))) hb5))
    replace RR := Lib.hid (IntsRd.below RR.out (Below.next (by repeat (first | with_reducible exact Below.refl _ _ | with_reducible refine below_drewN ?_ _ | with_reducible refine Below.drew ?_ | with_reducible refine Below.alloc ?_ ?_ _ | with_reducible refine Below.setCell ?_ ?_ _ | omega | (focus (simp; omega)) | (focus (simp; done)))) hb5))
    replace BB := Lib.hid (Below.next (W := w) (by repeat (first | with_reducible exact BB.out | with_reducible exact Below.refl _ _ | with_reducible refine below_drewN ?_ _ | with_reducible refine Below.drew ?_ | with_reducible refine Below.alloc ?_ ?_ _ | with_reducible refine Below.setCell ?_ ?_ _ | (with_reducible refine Below.next ?_ (by assumption)) | ((with_reducible refine Below.far' (by assumption) ?_ ?_ ?_); (focus (first | omega | (simp; omega) | (simp; done))); (focus (first | omega | (simp; omega) | (simp; done)))) | omega | (focus (simp; omega)) | (focus (simp; done)))) hb5)
    clear hb5
    go_wp2_with fail
    refine (toIntS_w _ t _ (IntsRd.below RR.out (by repeat (first | with_reducible exact Below.refl _ _ | with_reducible refine below_drewN ?_ _ | with_reducible refine Below.drew ?_ | with_reducible refine Below.alloc ?_ ?_ _ | with_reducible refine Below.setCell ?_ ?_ _ | omega | (focus (simp; omega)) | (focus (simp; done))))) (by unfold sizeInts at hs; omega)).mono ?_
    rintro e w6 ⟨y6, rfl, O6, hb6⟩
    have hz6 := hb6.size
    (try simp at hz6)
    replace H1 := Lib.hid (IntsOwn.below H1.out (Below.next (by repeat (first | with_reducible exact Below.refl _ _ | with_reducible refine below_drewN ?_ _ | with_reducible refine Below.drew ?_ | with_reducible refine Below.alloc ?_ ?_ _ | with_reducible refine Below.setCell ?_ ?_ _ | omega | (focus (simp; omega)) | (focus (simp; done)))) hb6))
    replace H2 := Lib.hid (BoolsOwn.below H2.out (Below.next (by repeat (first | with_reducible exact Below.refl _ _ | with_reducible refine below_drewN ?_ _ | with_reducible refine Below.drew ?_ | with_reducible refine Below.alloc ?_ ?_ _ | with_reducible refine Below.setCell ?_ ?_ _ | omega | (focus (simp; omega)) | (focus (simp; done)))) hb6))
    replace H3 := Lib.hid (IntsOwn.below H3.out (Below.next (by repeat (first | with_reducible exact Below.refl _ _ | with_reducible refine below_drewN ?_ _ | with_reducible refine Below.drew ?_ | with_reducible refine Below.alloc ?_ ?_ _ | with_reducible refine Below.setCell ?_ ?_ _ | omega | (focus (simp; omega)) | (focus (simp; done)))) hb6))
    replace H4 := Lib.hid (BoolsOwn.below H4.out (Below.next (by repeat (first | with_reducible exact Below.refl _ _ | with_reducible refine below_drewN ?_ _ | with_reducible refine Below.drew ?_ | with_reducible refine Below.alloc ?_ ?_ _ | with_reducible refine Below.setCell ?_ ?_ _ | omega | (focus (simp; omega)) | (focus (simp; done)))) hb6))
    replace RR := Lib.hid (IntsRd.below RR.out (Below.next (by repeat (first | with_reducible exact Below.refl _ _ | with_reducible refine below_drewN ?_ _ | with_reducible refine Below.drew ?_ | with_reducible refine Below.alloc ?_ ?_ _ | with_reducible refine Below.setCell ?_ ?_ _ | omega | (focus (simp; omega)) | (focus (simp; done)))) hb6))
    replace BB := Lib.hid (Below.next (W := w) (by repeat (first | with_reducible exact BB.out | with_reducible exact Below.refl _ _ | with_reducible refine below_drewN ?_ _ | with_reducible refine Below.drew ?_ | with_reducible refine Below.alloc ?_ ?_ _ | with_reducible refine Below.setCell ?_ ?_ _ | (with_reducible refine Below.next ?_ (by assumption)) | ((with_reducible refine Below.far' (by assumption) ?_ ?_ ?_); (focus (first | omega | (simp; omega) | (simp; done))); (focus (first | omega | (simp; omega) | (simp; done)))) | omega | (focus (simp; omega)) | (focus (simp; done)))) hb6)
    have H6 := Lib.hid O6
    clear O6 hb6
    go_wp2_with fail
    refine (eqInts_c y3 y6 t t _ (IntsRd.below (SOwn.rd H3.out) (by repeat (first | with_reducible exact Below.refl _ _ | with_reducible refine below_drewN ?_ _ | with_reducible refine Below.drew ?_ | with_reducible refine Below.alloc ?_ ?_ _ | with_reducible refine Below.setCell ?_ ?_ _ | omega | (focus (simp; omega)) | (focus (simp; done))))) (IntsRd.below (SOwn.rd H6.out) (by repeat (first | with_reducible exact Below.refl _ _ | with_reducible refine below_drewN ?_ _ | with_reducible refine Below.drew ?_ | with_reducible refine Below.alloc ?_ ?_ _ | with_reducible refine Below.setCell ?_ ?_ _ | omega | (focus (simp; omega)) | (focus (simp; done))))) (by omega) (by omega)).mono ?_
    rw [show decide (t = t) = true by simp]
    rintro e w7 ⟨rfl, hb7⟩
    have hz7 := hb7.size
    (try simp at hz7)
    replace H1 := Lib.hid (IntsOwn.below H1.out (Below.next (by repeat (first | with_reducible exact Below.refl _ _ | with_reducible refine below_drewN ?_ _ | with_reducible refine Below.drew ?_ | with_reducible refine Below.alloc ?_ ?_ _ | with_reducible refine Below.setCell ?_ ?_ _ | omega | (focus (simp; omega)) | (focus (simp; done)))) hb7))
    replace H2 := Lib.hid (BoolsOwn.below H2.out (Below.next (by repeat (first | with_reducible exact Below.refl _ _ | with_reducible refine below_drewN ?_ _ | with_reducible refine Below.drew ?_ | with_reducible refine Below.alloc ?_ ?_ _ | with_reducible refine Below.setCell ?_ ?_ _ | omega | (focus (simp; omega)) | (focus (simp; done)))) hb7))
    replace H3 := Lib.hid (IntsOwn.below H3.out (Below.next (by repeat (first | with_reducible exact Below.refl _ _ | with_reducible refine below_drewN ?_ _ | with_reducible refine Below.drew ?_ | with_reducible refine Below.alloc ?_ ?_ _ | with_reducible refine Below.setCell ?_ ?_ _ | omega | (focus (simp; omega)) | (focus (simp; done)))) hb7))
    replace H4 := Lib.hid (BoolsOwn.below H4.out (Below.next (by repeat (first | with_reducible exact Below.refl _ _ | with_reducible refine below_drewN ?_ _ | with_reducible refine Below.drew ?_ | with_reducible refine Below.alloc ?_ ?_ _ | with_reducible refine Below.setCell ?_ ?_ _ | omega | (focus (simp; omega)) | (focus (simp; done)))) hb7))
    replace H6 := Lib.hid (IntsOwn.below H6.out (Below.next (by repeat (first | with_reducible exact Below.refl _ _ | with_reducible refine below_drewN ?_ _ | with_reducible refine Below.drew ?_ | with_reducible refine Below.alloc ?_ ?_ _ | with_reducible refine Below.setCell ?_ ?_ _ | omega | (focus (simp; omega)) | (focus (simp; done)))) hb7))
    replace RR := Lib.hid (IntsRd.below RR.out (Below.next (by repeat (first | with_reducible exact Below.refl _ _ | with_reducible refine below_drewN ?_ _ | with_reducible refine Below.drew ?_ | with_reducible refine Below.alloc ?_ ?_ _ | with_reducible refine Below.setCell ?_ ?_ _ | omega | (focus (simp; omega)) | (focus (simp; done)))) hb7))
    replace BB := Lib.hid (Below.next (W := w) (by repeat (first | with_reducible exact BB.out | with_reducible exact Below.refl _ _ | with_reducible refine below_drewN ?_ _ | with_reducible refine Below.drew ?_ | with_reducible refine Below.alloc ?_ ?_ _ | with_reducible refine Below.setCell ?_ ?_ _ | (with_reducible refine Below.next ?_ (by assumption)) | ((with_reducible refine Below.far' (by assumption) ?_ ?_ ?_); (focus (first | omega | (simp; omega) | (simp; done))); (focus (first | omega | (simp; omega) | (simp; done)))) | omega | (focus (simp; omega)) | (focus (simp; done)))) hb7)
    clear hb7 H6 H1
    go_wp2_with fail
    refine (markInts_c y3 t 1 _ _ _ (IntsOwn.below H3.out (by repeat (first | with_reducible exact Below.refl _ _ | with_reducible refine below_drewN ?_ _ | with_reducible refine Below.drew ?_ | with_reducible refine Below.alloc ?_ ?_ _ | with_reducible refine Below.setCell ?_ ?_ _ | omega | (focus (simp; omega)) | (focus (simp; done))))) (by first | omega | (simp; omega) | (simp; done)) (by omega) (by omega) (by omega)).mono ?_
    rintro e w8 ⟨rfl, O8, gr8⟩
    clear H3
    have hz8 := gr8.size
    (try simp at hz8)
    replace H2 := Lib.hid (BoolsOwn.gin (BoolsOwn.below H2.out (by repeat (first | with_reducible exact Below.refl _ _ | with_reducible refine below_drewN ?_ _ | with_reducible refine Below.drew ?_ | with_reducible refine Below.alloc ?_ ?_ _ | with_reducible refine Below.setCell ?_ ?_ _ | omega | (focus (simp; omega)) | (focus (simp; done))))) gr8 (by first | omega | (simp; omega) | (simp; done)))
    replace H4 := Lib.hid (BoolsOwn.gin (BoolsOwn.below H4.out (by repeat (first | with_reducible exact Below.refl _ _ | with_reducible refine below_drewN ?_ _ | with_reducible refine Below.drew ?_ | with_reducible refine Below.alloc ?_ ?_ _ | with_reducible refine Below.setCell ?_ ?_ _ | omega | (focus (simp; omega)) | (focus (simp; done))))) gr8 (by first | omega | (simp; omega) | (simp; done)))
    replace RR := Lib.hid (SRd.gin (IntsRd.below RR.out (by repeat (first | with_reducible exact Below.refl _ _ | with_reducible refine below_drewN ?_ _ | with_reducible refine Below.drew ?_ | with_reducible refine Below.alloc ?_ ?_ _ | with_reducible refine Below.setCell ?_ ?_ _ | omega | (focus (simp; omega)) | (focus (simp; done))))) hr gr8 (by first | omega | (simp; omega) | (simp; done)))
    replace BB := Lib.hid (Below.gin (D := w.heap.size) (a := w) (by repeat (first | with_reducible exact BB.out | with_reducible exact Below.refl _ _ | with_reducible refine below_drewN ?_ _ | with_reducible refine Below.drew ?_ | with_reducible refine Below.alloc ?_ ?_ _ | with_reducible refine Below.setCell ?_ ?_ _ | (with_reducible refine Below.next ?_ (by assumption)) | ((with_reducible refine Below.far' (by assumption) ?_ ?_ ?_); (focus (first | omega | (simp; omega) | (simp; done))); (focus (first | omega | (simp; omega) | (simp; done)))) | omega | (focus (simp; omega)) | (focus (simp; done)))) gr8 (by first | omega | (simp; omega) | (simp; done)) (by first | omega | (simp; omega) | (simp; done)))
    clear O8 gr8
    go_wp2_with fail
    refine (eqBools_c g0 b0 s s _ (BoolsRd.below (BoolsOwn.rd H4.out) (by repeat (first | with_reducible exact Below.refl _ _ | with_reducible refine below_drewN ?_ _ | with_reducible refine Below.drew ?_ | with_reducible refine Below.alloc ?_ ?_ _ | with_reducible refine Below.setCell ?_ ?_ _ | omega | (focus (simp; omega)) | (focus (simp; done))))) (BoolsRd.below (BoolsOwn.rd H2.out) (by repeat (first | with_reducible exact Below.refl _ _ | with_reducible refine below_drewN ?_ _ | with_reducible refine Below.drew ?_ | with_reducible refine Below.alloc ?_ ?_ _ | with_reducible refine Below.setCell ?_ ?_ _ | omega | (focus (simp; omega)) | (focus (simp; done))))) (by omega) (by omega)).mono ?_
    rw [show decide (s = s) = true by simp]
    rintro e w9 ⟨rfl, hb9⟩
    have hz9 := hb9.size
    (try simp at hz9)
    replace H2 := Lib.hid (BoolsOwn.below H2.out (Below.next (by repeat (first | with_reducible exact Below.refl _ _ | with_reducible refine below_drewN ?_ _ | with_reducible refine Below.drew ?_ | with_reducible refine Below.alloc ?_ ?_ _ | with_reducible refine Below.setCell ?_ ?_ _ | omega | (focus (simp; omega)) | (focus (simp; done)))) hb9))
    replace H4 := Lib.hid (BoolsOwn.below H4.out (Below.next (by repeat (first | with_reducible exact Below.refl _ _ | with_reducible refine below_drewN ?_ _ | with_reducible refine Below.drew ?_ | with_reducible refine Below.alloc ?_ ?_ _ | with_reducible refine Below.setCell ?_ ?_ _ | omega | (focus (simp; omega)) | (focus (simp; done)))) hb9))
    replace RR := Lib.hid (IntsRd.below RR.out (Below.next (by repeat (first | with_reducible exact Below.refl _ _ | with_reducible refine below_drewN ?_ _ | with_reducible refine Below.drew ?_ | with_reducible refine Below.alloc ?_ ?_ _ | with_reducible refine Below.setCell ?_ ?_ _ | omega | (focus (simp; omega)) | (focus (simp; done)))) hb9))
    replace BB := Lib.hid (Below.next (W := w) (by repeat (first | with_reducible exact BB.out | with_reducible exact Below.refl _ _ | with_reducible refine below_drewN ?_ _ | with_reducible refine Below.drew ?_ | with_reducible refine Below.alloc ?_ ?_ _ | with_reducible refine Below.setCell ?_ ?_ _ | (with_reducible refine Below.next ?_ (by assumption)) | ((with_reducible refine Below.far' (by assumption) ?_ ?_ ?_); (focus (first | omega | (simp; omega) | (simp; done))); (focus (first | omega | (simp; omega) | (simp; done)))) | omega | (focus (simp; omega)) | (focus (simp; done)))) hb9)
    clear hb9
    go_wp2_with fail
    refine (markBools_c g0 s 1 _ _ _ (BoolsOwn.below H4.out (by repeat (first | with_reducible exact Below.refl _ _ | with_reducible refine below_drewN ?_ _ | with_reducible refine Below.drew ?_ | with_reducible refine Below.alloc ?_ ?_ _ | with_reducible refine Below.setCell ?_ ?_ _ | omega | (focus (simp; omega)) | (focus (simp; done))))) (by first | omega | (simp; omega) | (simp; done)) (by omega) (by omega) (by omega)).mono ?_
    rintro e w10 ⟨rfl, O10, gr10⟩
    clear H4
    have hz10 := gr10.size
    (try simp at hz10)
    replace H2 := Lib.hid (BoolsOwn.gin (BoolsOwn.below H2.out (by repeat (first | with_reducible exact Below.refl _ _ | with_reducible refine below_drewN ?_ _ | with_reducible refine Below.drew ?_ | with_reducible refine Below.alloc ?_ ?_ _ | with_reducible refine Below.setCell ?_ ?_ _ | omega | (focus (simp; omega)) | (focus (simp; done))))) gr10 (by first | omega | (simp; omega) | (simp; done)))
    replace RR := Lib.hid (SRd.gin (IntsRd.below RR.out (by repeat (first | with_reducible exact Below.refl _ _ | with_reducible refine below_drewN ?_ _ | with_reducible refine Below.drew ?_ | with_reducible refine Below.alloc ?_ ?_ _ | with_reducible refine Below.setCell ?_ ?_ _ | omega | (focus (simp; omega)) | (focus (simp; done))))) hr gr10 (by first | omega | (simp; omega) | (simp; done)))
    replace BB := Lib.hid (Below.gin (D := w.heap.size) (a := w) (by repeat (first | with_reducible exact BB.out | with_reducible exact Below.refl _ _ | with_reducible refine below_drewN ?_ _ | with_reducible refine Below.drew ?_ | with_reducible refine Below.alloc ?_ ?_ _ | with_reducible refine Below.setCell ?_ ?_ _ | (with_reducible refine Below.next ?_ (by assumption)) | ((with_reducible refine Below.far' (by assumption) ?_ ?_ ?_); (focus (first | omega | (simp; omega) | (simp; done))); (focus (first | omega | (simp; omega) | (simp; done)))) | omega | (focus (simp; omega)) | (focus (simp; done)))) gr10 (by first | omega | (simp; omega) | (simp; done)) (by first | omega | (simp; omega) | (simp; done)))
    have H10 := Lib.hid O10
    clear O10 gr10
    go_wp2_with fail
    refine (heldBools_c g0 s 1 _ (BoolsRd.below (BoolsOwn.rd H10.out) (by repeat (first | with_reducible exact Below.refl _ _ | with_reducible refine below_drewN ?_ _ | with_reducible refine Below.drew ?_ | with_reducible refine Below.alloc ?_ ?_ _ | with_reducible refine Below.setCell ?_ ?_ _ | omega | (focus (simp; omega)) | (focus (simp; done))))) (by omega) (by omega) (by omega)).mono ?_
    rintro e w11 ⟨rfl, hb11⟩
    have hz11 := hb11.size
    (try simp at hz11)
    replace H2 := Lib.hid (BoolsOwn.below H2.out (Below.next (by repeat (first | with_reducible exact Below.refl _ _ | with_reducible refine below_drewN ?_ _ | with_reducible refine Below.drew ?_ | with_reducible refine Below.alloc ?_ ?_ _ | with_reducible refine Below.setCell ?_ ?_ _ | omega | (focus (simp; omega)) | (focus (simp; done)))) hb11))
    replace H10 := Lib.hid (BoolsOwn.below H10.out (Below.next (by repeat (first | with_reducible exact Below.refl _ _ | with_reducible refine below_drewN ?_ _ | with_reducible refine Below.drew ?_ | with_reducible refine Below.alloc ?_ ?_ _ | with_reducible refine Below.setCell ?_ ?_ _ | omega | (focus (simp; omega)) | (focus (simp; done)))) hb11))
    replace RR := Lib.hid (IntsRd.below RR.out (Below.next (by repeat (first | with_reducible exact Below.refl _ _ | with_reducible refine below_drewN ?_ _ | with_reducible refine Below.drew ?_ | with_reducible refine Below.alloc ?_ ?_ _ | with_reducible refine Below.setCell ?_ ?_ _ | omega | (focus (simp; omega)) | (focus (simp; done)))) hb11))
    replace BB := Lib.hid (Below.next (W := w) (by repeat (first | with_reducible exact BB.out | with_reducible exact Below.refl _ _ | with_reducible refine below_drewN ?_ _ | with_reducible refine Below.drew ?_ | with_reducible refine Below.alloc ?_ ?_ _ | with_reducible refine Below.setCell ?_ ?_ _ | (with_reducible refine Below.next ?_ (by assumption)) | ((with_reducible refine Below.far' (by assumption) ?_ ?_ ?_); (focus (first | omega | (simp; omega) | (simp; done))); (focus (first | omega | (simp; omega) | (simp; done)))) | omega | (focus (simp; omega)) | (focus (simp; done)))) hb11)
    clear hb11
    go_wp2_with fail
    refine (toIntS_w _ t _ (IntsRd.below RR.out (by repeat (first | with_reducible exact Below.refl _ _ | with_reducible refine below_drewN ?_ _ | with_reducible refine Below.drew ?_ | with_reducible refine Below.alloc ?_ ?_ _ | with_reducible refine Below.setCell ?_ ?_ _ | omega | (focus (simp; omega)) | (focus (simp; done))))) (by unfold sizeInts at hs; omega)).mono ?_
    rintro e w12 ⟨y12, rfl, O12, hb12⟩
    have hz12 := hb12.size
    (try simp at hz12)
    replace H2 := Lib.hid (BoolsOwn.below H2.out (Below.next (by repeat (first | with_reducible exact Below.refl _ _ | with_reducible refine below_drewN ?_ _ | with_reducible refine Below.drew ?_ | with_reducible refine Below.alloc ?_ ?_ _ | with_reducible refine Below.setCell ?_ ?_ _ | omega | (focus (simp; omega)) | (focus (simp; done)))) hb12))
    replace H10 := Lib.hid (BoolsOwn.below H10.out (Below.next (by repeat (first | with_reducible exact Below.refl _ _ | with_reducible refine below_drewN ?_ _ | with_reducible refine Below.drew ?_ | with_reducible refine Below.alloc ?_ ?_ _ | with_reducible refine Below.setCell ?_ ?_ _ | omega | (focus (simp; omega)) | (focus (simp; done)))) hb12))
    replace RR := Lib.hid (IntsRd.below RR.out (Below.next (by repeat (first | with_reducible exact Below.refl _ _ | with_reducible refine below_drewN ?_ _ | with_reducible refine Below.drew ?_ | with_reducible refine Below.alloc ?_ ?_ _ | with_reducible refine Below.setCell ?_ ?_ _ | omega | (focus (simp; omega)) | (focus (simp; done)))) hb12))
    replace BB := Lib.hid (Below.next (W := w) (by repeat (first | with_reducible exact BB.out | with_reducible exact Below.refl _ _ | with_reducible refine below_drewN ?_ _ | with_reducible refine Below.drew ?_ | with_reducible refine Below.alloc ?_ ?_ _ | with_reducible refine Below.setCell ?_ ?_ _ | (with_reducible refine Below.next ?_ (by assumption)) | ((with_reducible refine Below.far' (by assumption) ?_ ?_ ?_); (focus (first | omega | (simp; omega) | (simp; done))); (focus (first | omega | (simp; omega) | (simp; done)))) | omega | (focus (simp; omega)) | (focus (simp; done)))) hb12)
    have H12 := Lib.hid O12
    clear O12 hb12
    go_wp2_with fail
    refine (implGrant_v y12 t cost rate most _ (IntsRd.below (SOwn.rd H12.out) (by repeat (first | with_reducible exact Below.refl _ _ | with_reducible refine below_drewN ?_ _ | with_reducible refine Below.drew ?_ | with_reducible refine Below.alloc ?_ ?_ _ | with_reducible refine Below.setCell ?_ ?_ _ | omega | (focus (simp; omega)) | (focus (simp; done))))) (by omega)).mono ?_
    rw [← HS.out]
    rintro e w13 ⟨k0, rfl, O13, hb13⟩
    have hz13 := hb13.size
    (try simp at hz13)
    replace H2 := Lib.hid (BoolsOwn.below H2.out (Below.next (by repeat (first | with_reducible exact Below.refl _ _ | with_reducible refine below_drewN ?_ _ | with_reducible refine Below.drew ?_ | with_reducible refine Below.alloc ?_ ?_ _ | with_reducible refine Below.setCell ?_ ?_ _ | omega | (focus (simp; omega)) | (focus (simp; done)))) hb13))
    replace H10 := Lib.hid (BoolsOwn.below H10.out (Below.next (by repeat (first | with_reducible exact Below.refl _ _ | with_reducible refine below_drewN ?_ _ | with_reducible refine Below.drew ?_ | with_reducible refine Below.alloc ?_ ?_ _ | with_reducible refine Below.setCell ?_ ?_ _ | omega | (focus (simp; omega)) | (focus (simp; done)))) hb13))
    replace H12 := Lib.hid (IntsOwn.below H12.out (Below.next (by repeat (first | with_reducible exact Below.refl _ _ | with_reducible refine below_drewN ?_ _ | with_reducible refine Below.drew ?_ | with_reducible refine Below.alloc ?_ ?_ _ | with_reducible refine Below.setCell ?_ ?_ _ | omega | (focus (simp; omega)) | (focus (simp; done)))) hb13))
    replace RR := Lib.hid (IntsRd.below RR.out (Below.next (by repeat (first | with_reducible exact Below.refl _ _ | with_reducible refine below_drewN ?_ _ | with_reducible refine Below.drew ?_ | with_reducible refine Below.alloc ?_ ?_ _ | with_reducible refine Below.setCell ?_ ?_ _ | omega | (focus (simp; omega)) | (focus (simp; done)))) hb13))
    replace BB := Lib.hid (Below.next (W := w) (by repeat (first | with_reducible exact BB.out | with_reducible exact Below.refl _ _ | with_reducible refine below_drewN ?_ _ | with_reducible refine Below.drew ?_ | with_reducible refine Below.alloc ?_ ?_ _ | with_reducible refine Below.setCell ?_ ?_ _ | (with_reducible refine Below.next ?_ (by assumption)) | ((with_reducible refine Below.far' (by assumption) ?_ ?_ ?_); (focus (first | omega | (simp; omega) | (simp; done))); (focus (first | omega | (simp; omega) | (simp; done)))) | omega | (focus (simp; omega)) | (focus (simp; done)))) hb13)
    have H13 := Lib.hid O13
    clear O13 hb13
    go_wp2_with fail
    refine (eqBools_c k0 b0 s s _ (BoolsRd.below (BoolsOwn.rd H13.out) (by repeat (first | with_reducible exact Below.refl _ _ | with_reducible refine below_drewN ?_ _ | with_reducible refine Below.drew ?_ | with_reducible refine Below.alloc ?_ ?_ _ | with_reducible refine Below.setCell ?_ ?_ _ | omega | (focus (simp; omega)) | (focus (simp; done))))) (BoolsRd.below (BoolsOwn.rd H2.out) (by repeat (first | with_reducible exact Below.refl _ _ | with_reducible refine below_drewN ?_ _ | with_reducible refine Below.drew ?_ | with_reducible refine Below.alloc ?_ ?_ _ | with_reducible refine Below.setCell ?_ ?_ _ | omega | (focus (simp; omega)) | (focus (simp; done))))) (by omega) (by omega)).mono ?_
    rw [show decide (s = s) = true by simp]
    rintro e w14 ⟨rfl, hb14⟩
    have hz14 := hb14.size
    (try simp at hz14)
    replace H2 := Lib.hid (BoolsOwn.below H2.out (Below.next (by repeat (first | with_reducible exact Below.refl _ _ | with_reducible refine below_drewN ?_ _ | with_reducible refine Below.drew ?_ | with_reducible refine Below.alloc ?_ ?_ _ | with_reducible refine Below.setCell ?_ ?_ _ | omega | (focus (simp; omega)) | (focus (simp; done)))) hb14))
    replace H10 := Lib.hid (BoolsOwn.below H10.out (Below.next (by repeat (first | with_reducible exact Below.refl _ _ | with_reducible refine below_drewN ?_ _ | with_reducible refine Below.drew ?_ | with_reducible refine Below.alloc ?_ ?_ _ | with_reducible refine Below.setCell ?_ ?_ _ | omega | (focus (simp; omega)) | (focus (simp; done)))) hb14))
    replace H12 := Lib.hid (IntsOwn.below H12.out (Below.next (by repeat (first | with_reducible exact Below.refl _ _ | with_reducible refine below_drewN ?_ _ | with_reducible refine Below.drew ?_ | with_reducible refine Below.alloc ?_ ?_ _ | with_reducible refine Below.setCell ?_ ?_ _ | omega | (focus (simp; omega)) | (focus (simp; done)))) hb14))
    replace H13 := Lib.hid (BoolsOwn.below H13.out (Below.next (by repeat (first | with_reducible exact Below.refl _ _ | with_reducible refine below_drewN ?_ _ | with_reducible refine Below.drew ?_ | with_reducible refine Below.alloc ?_ ?_ _ | with_reducible refine Below.setCell ?_ ?_ _ | omega | (focus (simp; omega)) | (focus (simp; done)))) hb14))
    replace RR := Lib.hid (IntsRd.below RR.out (Below.next (by repeat (first | with_reducible exact Below.refl _ _ | with_reducible refine below_drewN ?_ _ | with_reducible refine Below.drew ?_ | with_reducible refine Below.alloc ?_ ?_ _ | with_reducible refine Below.setCell ?_ ?_ _ | omega | (focus (simp; omega)) | (focus (simp; done)))) hb14))
    replace BB := Lib.hid (Below.next (W := w) (by repeat (first | with_reducible exact BB.out | with_reducible exact Below.refl _ _ | with_reducible refine below_drewN ?_ _ | with_reducible refine Below.drew ?_ | with_reducible refine Below.alloc ?_ ?_ _ | with_reducible refine Below.setCell ?_ ?_ _ | (with_reducible refine Below.next ?_ (by assumption)) | ((with_reducible refine Below.far' (by assumption) ?_ ?_ ?_); (focus (first | omega | (simp; omega) | (simp; done))); (focus (first | omega | (simp; omega) | (simp; done)))) | omega | (focus (simp; omega)) | (focus (simp; done)))) hb14)
    clear hb14
    go_wp2_with fail
    refine (heldBools_c g0 s 1 _ (BoolsRd.below (BoolsOwn.rd H10.out) (by repeat (first | with_reducible exact Below.refl _ _ | with_reducible refine below_drewN ?_ _ | with_reducible refine Below.drew ?_ | with_reducible refine Below.alloc ?_ ?_ _ | with_reducible refine Below.setCell ?_ ?_ _ | omega | (focus (simp; omega)) | (focus (simp; done))))) (by omega) (by omega) (by omega)).mono ?_
    rintro e w15 ⟨rfl, hb15⟩
    have hz15 := hb15.size
    (try simp at hz15)
    replace H2 := Lib.hid (BoolsOwn.below H2.out (Below.next (by repeat (first | with_reducible exact Below.refl _ _ | with_reducible refine below_drewN ?_ _ | with_reducible refine Below.drew ?_ | with_reducible refine Below.alloc ?_ ?_ _ | with_reducible refine Below.setCell ?_ ?_ _ | omega | (focus (simp; omega)) | (focus (simp; done)))) hb15))
    replace H10 := Lib.hid (BoolsOwn.below H10.out (Below.next (by repeat (first | with_reducible exact Below.refl _ _ | with_reducible refine below_drewN ?_ _ | with_reducible refine Below.drew ?_ | with_reducible refine Below.alloc ?_ ?_ _ | with_reducible refine Below.setCell ?_ ?_ _ | omega | (focus (simp; omega)) | (focus (simp; done)))) hb15))
    replace H12 := Lib.hid (IntsOwn.below H12.out (Below.next (by repeat (first | with_reducible exact Below.refl _ _ | with_reducible refine below_drewN ?_ _ | with_reducible refine Below.drew ?_ | with_reducible refine Below.alloc ?_ ?_ _ | with_reducible refine Below.setCell ?_ ?_ _ | omega | (focus (simp; omega)) | (focus (simp; done)))) hb15))
    replace H13 := Lib.hid (BoolsOwn.below H13.out (Below.next (by repeat (first | with_reducible exact Below.refl _ _ | with_reducible refine below_drewN ?_ _ | with_reducible refine Below.drew ?_ | with_reducible refine Below.alloc ?_ ?_ _ | with_reducible refine Below.setCell ?_ ?_ _ | omega | (focus (simp; omega)) | (focus (simp; done)))) hb15))
    replace RR := Lib.hid (IntsRd.below RR.out (Below.next (by repeat (first | with_reducible exact Below.refl _ _ | with_reducible refine below_drewN ?_ _ | with_reducible refine Below.drew ?_ | with_reducible refine Below.alloc ?_ ?_ _ | with_reducible refine Below.setCell ?_ ?_ _ | omega | (focus (simp; omega)) | (focus (simp; done)))) hb15))
    replace BB := Lib.hid (Below.next (W := w) (by repeat (first | with_reducible exact BB.out | with_reducible exact Below.refl _ _ | with_reducible refine below_drewN ?_ _ | with_reducible refine Below.drew ?_ | with_reducible refine Below.alloc ?_ ?_ _ | with_reducible refine Below.setCell ?_ ?_ _ | (with_reducible refine Below.next ?_ (by assumption)) | ((with_reducible refine Below.far' (by assumption) ?_ ?_ ?_); (focus (first | omega | (simp; omega) | (simp; done))); (focus (first | omega | (simp; omega) | (simp; done)))) | omega | (focus (simp; omega)) | (focus (simp; done)))) hb15)
    clear hb15
    go_wp2
    go_ret
    exact ⟨rfl, (by repeat (first | with_reducible exact BB.out | with_reducible exact Below.refl _ _ | with_reducible refine below_drewN ?_ _ | with_reducible refine Below.drew ?_ | with_reducible refine Below.alloc ?_ ?_ _ | with_reducible refine Below.setCell ?_ ?_ _ | (with_reducible refine Below.next ?_ (by assumption)) | ((with_reducible refine Below.far' (by assumption) ?_ ?_ ?_); (focus (first | omega | (simp; omega) | (simp; done))); (focus (first | omega | (simp; omega) | (simp; done)))) | omega | (focus (simp; omega)) | (focus (simp; done))))⟩
set_option maxRecDepth 100000 in
theorem lifted (os : Os) (started : os.Started) (H : Type) (enc : TypeId × Value → H) :
    ReturnsInHanded {} Try.checked os 7 .any (Rows.fnExactGrantedTimesSpec.pre6 enc Try.prog Try.f7 Rows.fnExactGrantedTimesRow.domain false) (Rows.fnExactGrantedTimesSpec.post enc Try.prog Try.f7 false true false false) := by
  refine returnsInHanded_of_change (C := Try.checked) own_knob started (by kernel_rfl) Try.func7
    (ChangeSpec.witness6 (enc := enc) (C := Try.checked) false ⟨#[], #[.slice none 0 0, .int .i64 0, .int .i64 0, .int .i64 0], []⟩ 8 (by kernel_rfl) (by kernel_rfl) (by kernel_rfl) (by kernel_rfl)) ?_
  intro W base args ds gs before hval0 hW hcnd _
  have hval : ∀ (j : Nat) t v, Try.f7.params[j]? = some t → args[j]? = some v → Value.okWide Try.prog W .any base t v := hval0
  have hW' := hW
  obtain ⟨p, q, hA0, hV, rfl, hfz, hnd⟩ := hW
  have hA : DataW.TrodAll enc Try.prog W 0 (fun _ => true) true Try.f7.params.toList args.toList ds p := hA0
  rw [Try.params7] at hA hval
  obtain ⟨v0, vs0, d0, ds0, p0, q0, hargs, rfl, rfl, h0, r0⟩ := trodAll_cons hA
  obtain ⟨v1, vs1, d1, ds1, p1, q1, rfl, rfl, rfl, h1, r1⟩ := trodAll_cons r0
  obtain ⟨v2, vs2, d2, ds2, p2, q2, rfl, rfl, rfl, h2, r2⟩ := trodAll_cons r1
  obtain ⟨v3, vs3, d3, ds3, p3, q3, rfl, rfl, rfl, h3, r3⟩ := trodAll_cons r2
  obtain ⟨rfl, rfl, rfl⟩ := trodAll_nil r3
  obtain rfl : args = #[v0, v1, v2, v3] := by cases args; simp_all
  obtain ⟨rfl, rfl⟩ := trodVars_none hV
  have k0 := h0
  have lt0 : ∀ x ∈ p0, x.block < W.heap.size := by obtain ⟨m, hm⟩ := k0; exact DataW.trod_lt m _ _ _ hm
  obtain ⟨A0, c0, l0, rfl, hl0, hm0, rd0, hn0⟩ := open_ints_rd Try.underlying39 Try.underlying3 (by kernel_rfl) (hval 0 39 v0 rfl rfl) h0
  obtain ⟨a1, rfl, rfl, rfl, e1⟩ := open_int Try.underlying3 (hval 1 3 v1 rfl rfl) h1
  obtain ⟨a2, rfl, rfl, rfl, e2⟩ := open_int Try.underlying3 (hval 2 3 v2 rfl rfl) h2
  obtain ⟨a3, rfl, rfl, rfl, e3⟩ := open_int Try.underlying3 (hval 3 3 v3 rfl rfl) h3
  clear hA0 hval0
  refine (walk _ l0 a1 a2 a3 W (SRd.of rd0 hl0 (Nat.le_trans hl0 hm0) hn0) (wf_i64 e1) (wf_i64 e2) (wf_i64 e3)).mono fun e W' ⟨he, bel⟩ => ?_
  subst he
  exact ⟨_, rfl, _, _, _, [], _, [], hW', trodAll_mk1 (shut_bool Try.underlying4 _), (trodAll_cons_mk (Below.trod laid_out (by kernel_rfl) (of_decide_eq_true (by kernel_rfl)) k0 bel lt0) (trodAll_cons_mk (shut_int Try.underlying3 e1) (trodAll_cons_mk (shut_int Try.underlying3 e2) (trodAll_cons_mk (shut_int Try.underlying3 e3) trodAll_mk0)))), rfl, bel.frame _, fun h => by cases h⟩
theorem over : Rows.fnExactGrantedTimesRow.holds Try.pinned (OpenSpec.ofChange Rows.fnExactGrantedTimesSpec) :=
  OpenClaim.holds_of_wide 7 Try.f7 rfl rfl rfl rfl rfl rfl rfl ⟨rfl, rfl, rfl, rfl, rfl⟩ rfl rfl rfl rfl rfl (by kernel_rfl) Try.func7 (by kernel_rfl)
    (of_decide_eq_true (by kernel_rfl)) (by unfold Func.isWrapper; first | (rw [if_pos (by decide +kernel)]; kernel_rfl) | (rw [if_neg (by decide +kernel)]; exact ⟨rfl, rfl⟩))
    (fun os started H enc _ => lifted os started H enc)
theorem proved : Rows.FnExactGrantedTimesSaid := over
end ExGrant
end Go.Proofs.Ytmgbenfmhgkogaa
