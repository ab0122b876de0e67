/-
  FnExactNewFlash: the program's NewFlash returns what the reference's returns, for all arguments. No condition.
-/
import Derived.Test.YtnnanknljpkdeaaBase
import Derived.Test.YtnnanknljpkdeaaNum
import Derived.Test.YtnnanknljpkdeaaInts
import Derived.Test.YtnnanknljpkdeaaApp
import Derived.Test.YtnnanknljpkdeaaIntsW
import Derived.Test.YtnnanknljpkdeaaLib
import Derived.Test.YtnnanknljpkdeaaSpares
import Derived.Test.YtnnanknljpkdeaaOwn
import Derived.Test.YtnnanknljpkdeaaPage
import Derived.Test.YtnnanknljpkdeaaFlash
import Derived.Test.YtnnanknljpkdeaaFlashM
import Derived.Test.YtnnanknljpkdeaaFlashC
import Derived.Test.YtnnanknljpkdeaaCopyB
import Derived.Test.YtnnanknljpkdeaaRep
import Derived.Test.YtnnanknljpkdeaaFlashN
import Derived.Test.YtnnanknljpkdeaaOpen
namespace Go.Proofs.Ytnnanknljpkdeaa
open Go.RowKit Go.ChangeShapes Go.WideShapes Go.ChangeAt Go.Deep Go.Joins
theorem newF_size (n : Int) : sizeFlash (newF n) ≤ 100 := by
  cases h : inB n 2 6
  · rw [newF_no h]; simp [sizeFlash]
  · rw [newF_yes h]
    have := inB_true.1 h
    simp [sizeFlash]
    omega
namespace ExNew
set_option maxHeartbeats 8000000 in
theorem walk (a : Int) (w : World) (_ : -9223372036854775808 ≤ a ∧ a ≤ 9223372036854775807) :
    Calls Try.prog 4 #[.int .i64 a] w fun e w' => e = .returned (.bool true) ∧ Below w.heap.size w w' := by
  obtain ⟨s, hse⟩ : ∃ s, s = newF a := ⟨_, rfl⟩
  have hss : sizeFlash s ≤ 2097152 := by have := newF_size a; rw [← hse] at this; omega
  have HS := Lib.hid hse
  clear hse
  have hcs := cntFlash_le s
  have BB : Hid (Below w.heap.size w w) := Lib.hid (Below.refl _ _)
  go_enter Try.func4, Try.ntmps4
  go_wp2_with fail
  refine (specNew_c a _).mono ?_
  rw [← HS.out]
  rintro e w1 ⟨b0, b1, rfl, O1, hb1⟩
  have hz1 := hb1.size
  (try simp at hz1)
  replace BB := Lib.hid (Below.next (W := w) (by repeat (first | with_reducible exact BB.out | with_reducible exact Below.refl _ _ | with_reducible refine below_drewN ?_ _ | with_reducible refine Below.drew ?_ | with_reducible refine Below.alloc ?_ ?_ _ | with_reducible refine Below.setCell ?_ ?_ _ | (with_reducible refine Below.next ?_ (by assumption)) | ((with_reducible refine Below.far' (by assumption) ?_ ?_ ?_); (focus (first | omega | (simp; omega) | (simp; done))); (focus (first | omega | (simp; omega) | (simp; done)))) | omega | (focus (simp; omega)) | (focus (simp; done)))) hb1)
  have H1 := Lib.hid O1
  clear O1
  have L1 := Loc.newAt w1 [b0, b1] 30 (b := w1.heap.size) rfl
  have ob0 := store_one (FlashOwn.one H1.out b0 (by simp))
  have ob1 := store_one (FlashOwn.one H1.out b1 (by simp))
  go_wp2_with fail
  refine (implNew_c a _).mono ?_
  rw [← HS.out]
  rintro e w2 ⟨g0, g1, rfl, O2, hb2⟩
  replace L1 := Loc.carryB L1 (fun h => by ((repeat (first | with_reducible exact h | with_reducible refine Loc.drew ?_ | with_reducible refine Loc.drewN ?_ _ | with_reducible refine Loc.alloc ?_ _)); done)) hb2
  obtain ⟨L1c0, L1c1, L1f⟩ := L1.two
  have L1z2 := L1.lt
  have hz2 := hb2.size
  (try simp at hz2)
  replace H1 := Lib.hid (FlashOwn.below H1.out (Below.next (by repeat (first | with_reducible exact Below.refl _ _ | with_reducible refine below_drewN ?_ _ | with_reducible refine Below.drew ?_ | with_reducible refine Below.alloc ?_ ?_ _ | with_reducible refine Below.setCell ?_ ?_ _ | omega | (focus (simp; omega)) | (focus (simp; done)))) hb2))
  replace BB := Lib.hid (Below.next (W := w) (by repeat (first | with_reducible exact BB.out | with_reducible exact Below.refl _ _ | with_reducible refine below_drewN ?_ _ | with_reducible refine Below.drew ?_ | with_reducible refine Below.alloc ?_ ?_ _ | with_reducible refine Below.setCell ?_ ?_ _ | (with_reducible refine Below.next ?_ (by assumption)) | ((with_reducible refine Below.far' (by assumption) ?_ ?_ ?_); (focus (first | omega | (simp; omega) | (simp; done))); (focus (first | omega | (simp; omega) | (simp; done)))) | omega | (focus (simp; omega)) | (focus (simp; done)))) hb2)
  have H2 := Lib.hid O2
  clear O2
  have L2 := Loc.newAt w2 [g0, g1] 30 (b := w2.heap.size) rfl
  have og0 := store_one (FlashOwn.one H2.out g0 (by simp))
  have og1 := store_one (FlashOwn.one H2.out g1 (by simp))
  go_wp2_with fail
  refine (eqFlash_c g0 g1 b0 b1 s s _ (FlashRd.below (FlashOwn.rd H2.out) (by repeat (first | with_reducible exact Below.refl _ _ | with_reducible refine below_drewN ?_ _ | with_reducible refine Below.drew ?_ | with_reducible refine Below.alloc ?_ ?_ _ | with_reducible refine Below.setCell ?_ ?_ _ | omega | (focus (simp; omega)) | (focus (simp; done))))) (FlashRd.below (FlashOwn.rd H1.out) (by repeat (first | with_reducible exact Below.refl _ _ | with_reducible refine below_drewN ?_ _ | with_reducible refine Below.drew ?_ | with_reducible refine Below.alloc ?_ ?_ _ | with_reducible refine Below.setCell ?_ ?_ _ | omega | (focus (simp; omega)) | (focus (simp; done))))) (by omega) (by omega)).mono ?_
  rw [show decide (s = s) = true by simp]
  rintro e w3 ⟨rfl, hb3⟩
  clear L1c0 L1c1 L1f
  replace L1 := Loc.carryB L1 (fun h => by ((repeat (first | with_reducible exact h | with_reducible refine Loc.drew ?_ | with_reducible refine Loc.drewN ?_ _ | with_reducible refine Loc.alloc ?_ _)); done)) hb3
  obtain ⟨L1c0, L1c1, L1f⟩ := L1.two
  have L1z3 := L1.lt
  replace L2 := Loc.carryB L2 (fun h => by ((repeat (first | with_reducible exact h | with_reducible refine Loc.drew ?_ | with_reducible refine Loc.drewN ?_ _ | with_reducible refine Loc.alloc ?_ _)); done)) hb3
  obtain ⟨L2c0, L2c1, L2f⟩ := L2.two
  have L2z3 := L2.lt
  have hz3 := hb3.size
  (try simp at hz3)
  replace H1 := Lib.hid (FlashOwn.below H1.out (Below.next (by repeat (first | with_reducible exact Below.refl _ _ | with_reducible refine below_drewN ?_ _ | with_reducible refine Below.drew ?_ | with_reducible refine Below.alloc ?_ ?_ _ | with_reducible refine Below.setCell ?_ ?_ _ | omega | (focus (simp; omega)) | (focus (simp; done)))) hb3))
  replace H2 := Lib.hid (FlashOwn.below H2.out (Below.next (by repeat (first | with_reducible exact Below.refl _ _ | with_reducible refine below_drewN ?_ _ | with_reducible refine Below.drew ?_ | with_reducible refine Below.alloc ?_ ?_ _ | with_reducible refine Below.setCell ?_ ?_ _ | omega | (focus (simp; omega)) | (focus (simp; done)))) hb3))
  replace BB := Lib.hid (Below.next (W := w) (by repeat (first | with_reducible exact BB.out | with_reducible exact Below.refl _ _ | with_reducible refine below_drewN ?_ _ | with_reducible refine Below.drew ?_ | with_reducible refine Below.alloc ?_ ?_ _ | with_reducible refine Below.setCell ?_ ?_ _ | (with_reducible refine Below.next ?_ (by assumption)) | ((with_reducible refine Below.far' (by assumption) ?_ ?_ ?_); (focus (first | omega | (simp; omega) | (simp; done))); (focus (first | omega | (simp; omega) | (simp; done)))) | omega | (focus (simp; omega)) | (focus (simp; done)))) hb3)
  go_wp2_with fail
  refine (markFlash_c g0 g1 s 1 _ _ _ (FlashOwn.below H2.out (by repeat (first | with_reducible exact Below.refl _ _ | with_reducible refine below_drewN ?_ _ | with_reducible refine Below.drew ?_ | with_reducible refine Below.alloc ?_ ?_ _ | with_reducible refine Below.setCell ?_ ?_ _ | omega | (focus (simp; omega)) | (focus (simp; done))))) (by first | omega | (simp; omega) | (simp; done)) (by omega) (by omega) (by omega)).mono ?_
  rintro e w4 ⟨rfl, O4, gr4⟩
  clear H2
  clear L1c0 L1c1 L1f
  replace L1 := Loc.carryG L1 (fun h => by ((repeat (first | with_reducible exact h | with_reducible refine Loc.drew ?_ | with_reducible refine Loc.drewN ?_ _ | with_reducible refine Loc.alloc ?_ _)); done)) gr4 (by first | omega | (simp; omega) | (simp; done))
  obtain ⟨L1c0, L1c1, L1f⟩ := L1.two
  have L1z4 := L1.lt
  clear L2c0 L2c1 L2f
  replace L2 := Loc.carryG L2 (fun h => by ((repeat (first | with_reducible exact h | with_reducible refine Loc.drew ?_ | with_reducible refine Loc.drewN ?_ _ | with_reducible refine Loc.alloc ?_ _)); done)) gr4 (by first | omega | (simp; omega) | (simp; done))
  obtain ⟨L2c0, L2c1, L2f⟩ := L2.two
  have L2z4 := L2.lt
  have hz4 := gr4.size
  (try simp at hz4)
  replace H1 := Lib.hid (FlashOwn.gin (FlashOwn.below H1.out (by repeat (first | with_reducible exact Below.refl _ _ | with_reducible refine below_drewN ?_ _ | with_reducible refine Below.drew ?_ | with_reducible refine Below.alloc ?_ ?_ _ | with_reducible refine Below.setCell ?_ ?_ _ | omega | (focus (simp; omega)) | (focus (simp; done))))) gr4 (by first | omega | (simp; omega) | (simp; done)))
  replace BB := Lib.hid (Below.gin (D := w.heap.size) (a := w) (by repeat (first | with_reducible exact BB.out | with_reducible exact Below.refl _ _ | with_reducible refine below_drewN ?_ _ | with_reducible refine Below.drew ?_ | with_reducible refine Below.alloc ?_ ?_ _ | with_reducible refine Below.setCell ?_ ?_ _ | (with_reducible refine Below.next ?_ (by assumption)) | ((with_reducible refine Below.far' (by assumption) ?_ ?_ ?_); (focus (first | omega | (simp; omega) | (simp; done))); (focus (first | omega | (simp; omega) | (simp; done)))) | omega | (focus (simp; omega)) | (focus (simp; done)))) gr4 (by first | omega | (simp; omega) | (simp; done)) (by first | omega | (simp; omega) | (simp; done)))
  have H4 := Lib.hid O4
  clear O4
  go_wp2_with fail
  refine (heldFlash_c g0 g1 s 1 _ (FlashRd.below (FlashOwn.rd H4.out) (by repeat (first | with_reducible exact Below.refl _ _ | with_reducible refine below_drewN ?_ _ | with_reducible refine Below.drew ?_ | with_reducible refine Below.alloc ?_ ?_ _ | with_reducible refine Below.setCell ?_ ?_ _ | omega | (focus (simp; omega)) | (focus (simp; done))))) (by omega) (by omega) (by omega)).mono ?_
  rintro e w5 ⟨rfl, hb5⟩
  clear L1c0 L1c1 L1f
  replace L1 := Loc.carryB L1 (fun h => by ((repeat (first | with_reducible exact h | with_reducible refine Loc.drew ?_ | with_reducible refine Loc.drewN ?_ _ | with_reducible refine Loc.alloc ?_ _)); done)) hb5
  obtain ⟨L1c0, L1c1, L1f⟩ := L1.two
  have L1z5 := L1.lt
  clear L2c0 L2c1 L2f
  replace L2 := Loc.carryB L2 (fun h => by ((repeat (first | with_reducible exact h | with_reducible refine Loc.drew ?_ | with_reducible refine Loc.drewN ?_ _ | with_reducible refine Loc.alloc ?_ _)); done)) hb5
  obtain ⟨L2c0, L2c1, L2f⟩ := L2.two
  have L2z5 := L2.lt
  have hz5 := hb5.size
  (try simp at hz5)
  replace H1 := Lib.hid (FlashOwn.below H1.out (Below.next (by repeat (first | with_reducible exact Below.refl _ _ | with_reducible refine below_drewN ?_ _ | with_reducible refine Below.drew ?_ | with_reducible refine Below.alloc ?_ ?_ _ | with_reducible refine Below.setCell ?_ ?_ _ | omega | (focus (simp; omega)) | (focus (simp; done)))) hb5))
  replace H4 := Lib.hid (FlashOwn.below H4.out (Below.next (by repeat (first | with_reducible exact Below.refl _ _ | with_reducible refine below_drewN ?_ _ | with_reducible refine Below.drew ?_ | with_reducible refine Below.alloc ?_ ?_ _ | with_reducible refine Below.setCell ?_ ?_ _ | omega | (focus (simp; omega)) | (focus (simp; done)))) hb5))
  replace BB := Lib.hid (Below.next (W := w) (by repeat (first | with_reducible exact BB.out | with_reducible exact Below.refl _ _ | with_reducible refine below_drewN ?_ _ | with_reducible refine Below.drew ?_ | with_reducible refine Below.alloc ?_ ?_ _ | with_reducible refine Below.setCell ?_ ?_ _ | (with_reducible refine Below.next ?_ (by assumption)) | ((with_reducible refine Below.far' (by assumption) ?_ ?_ ?_); (focus (first | omega | (simp; omega) | (simp; done))); (focus (first | omega | (simp; omega) | (simp; done)))) | omega | (focus (simp; omega)) | (focus (simp; done)))) hb5)
  go_wp2_with fail
  refine (implNew_c a _).mono ?_
  rw [← HS.out]
  rintro e w6 ⟨k0, k1, rfl, O6, hb6⟩
  clear L1c0 L1c1 L1f
  replace L1 := Loc.carryB L1 (fun h => by ((repeat (first | with_reducible exact h | with_reducible refine Loc.drew ?_ | with_reducible refine Loc.drewN ?_ _ | with_reducible refine Loc.alloc ?_ _)); done)) hb6
  obtain ⟨L1c0, L1c1, L1f⟩ := L1.two
  have L1z6 := L1.lt
  clear L2c0 L2c1 L2f
  replace L2 := Loc.carryB L2 (fun h => by ((repeat (first | with_reducible exact h | with_reducible refine Loc.drew ?_ | with_reducible refine Loc.drewN ?_ _ | with_reducible refine Loc.alloc ?_ _)); done)) hb6
  obtain ⟨L2c0, L2c1, L2f⟩ := L2.two
  have L2z6 := L2.lt
  have hz6 := hb6.size
  (try simp at hz6)
  replace H1 := Lib.hid (FlashOwn.below H1.out (Below.next (by repeat (first | with_reducible exact Below.refl _ _ | with_reducible refine below_drewN ?_ _ | with_reducible refine Below.drew ?_ | with_reducible refine Below.alloc ?_ ?_ _ | with_reducible refine Below.setCell ?_ ?_ _ | omega | (focus (simp; omega)) | (focus (simp; done)))) hb6))
  replace H4 := Lib.hid (FlashOwn.below H4.out (Below.next (by repeat (first | with_reducible exact Below.refl _ _ | with_reducible refine below_drewN ?_ _ | with_reducible refine Below.drew ?_ | with_reducible refine Below.alloc ?_ ?_ _ | with_reducible refine Below.setCell ?_ ?_ _ | omega | (focus (simp; omega)) | (focus (simp; done)))) hb6))
  replace BB := Lib.hid (Below.next (W := w) (by repeat (first | with_reducible exact BB.out | with_reducible exact Below.refl _ _ | with_reducible refine below_drewN ?_ _ | with_reducible refine Below.drew ?_ | with_reducible refine Below.alloc ?_ ?_ _ | with_reducible refine Below.setCell ?_ ?_ _ | (with_reducible refine Below.next ?_ (by assumption)) | ((with_reducible refine Below.far' (by assumption) ?_ ?_ ?_); (focus (first | omega | (simp; omega) | (simp; done))); (focus (first | omega | (simp; omega) | (simp; done)))) | omega | (focus (simp; omega)) | (focus (simp; done)))) hb6)
  have H6 := Lib.hid O6
  clear O6
  have L6 := Loc.newAt w6 [k0, k1] 30 (b := w6.heap.size) rfl
  have ok0 := store_one (FlashOwn.one H6.out k0 (by simp))
  have ok1 := store_one (FlashOwn.one H6.out k1 (by simp))
  go_wp2_with fail
  refine (eqFlash_c k0 k1 b0 b1 s s _ (FlashRd.below (FlashOwn.rd H6.out) (by repeat (first | with_reducible exact Below.refl _ _ | with_reducible refine below_drewN ?_ _ | with_reducible refine Below.drew ?_ | with_reducible refine Below.alloc ?_ ?_ _ | with_reducible refine Below.setCell ?_ ?_ _ | omega | (focus (simp; omega)) | (focus (simp; done))))) (FlashRd.below (FlashOwn.rd H1.out) (by repeat (first | with_reducible exact Below.refl _ _ | with_reducible refine below_drewN ?_ _ | with_reducible refine Below.drew ?_ | with_reducible refine Below.alloc ?_ ?_ _ | with_reducible refine Below.setCell ?_ ?_ _ | omega | (focus (simp; omega)) | (focus (simp; done))))) (by omega) (by omega)).mono ?_
  rw [show decide (s = s) = true by simp]
  rintro e w7 ⟨rfl, hb7⟩
  clear L1c0 L1c1 L1f
  replace L1 := Loc.carryB L1 (fun h => by ((repeat (first | with_reducible exact h | with_reducible refine Loc.drew ?_ | with_reducible refine Loc.drewN ?_ _ | with_reducible refine Loc.alloc ?_ _)); done)) hb7
  obtain ⟨L1c0, L1c1, L1f⟩ := L1.two
  have L1z7 := L1.lt
  clear L2c0 L2c1 L2f
  replace L2 := Loc.carryB L2 (fun h => by ((repeat (first | with_reducible exact h | with_reducible refine Loc.drew ?_ | with_reducible refine Loc.drewN ?_ _ | with_reducible refine Loc.alloc ?_ _)); done)) hb7
  obtain ⟨L2c0, L2c1, L2f⟩ := L2.two
  have L2z7 := L2.lt
  replace L6 := Loc.carryB L6 (fun h => by ((repeat (first | with_reducible exact h | with_reducible refine Loc.drew ?_ | with_reducible refine Loc.drewN ?_ _ | with_reducible refine Loc.alloc ?_ _)); done)) hb7
  obtain ⟨L6c0, L6c1, L6f⟩ := L6.two
  have L6z7 := L6.lt
  have hz7 := hb7.size
  (try simp at hz7)
  replace H1 := Lib.hid (FlashOwn.below H1.out (Below.next (by repeat (first | with_reducible exact Below.refl _ _ | with_reducible refine below_drewN ?_ _ | with_reducible refine Below.drew ?_ | with_reducible refine Below.alloc ?_ ?_ _ | with_reducible refine Below.setCell ?_ ?_ _ | omega | (focus (simp; omega)) | (focus (simp; done)))) hb7))
  replace H4 := Lib.hid (FlashOwn.below H4.out (Below.next (by repeat (first | with_reducible exact Below.refl _ _ | with_reducible refine below_drewN ?_ _ | with_reducible refine Below.drew ?_ | with_reducible refine Below.alloc ?_ ?_ _ | with_reducible refine Below.setCell ?_ ?_ _ | omega | (focus (simp; omega)) | (focus (simp; done)))) hb7))
  replace H6 := Lib.hid (FlashOwn.below H6.out (Below.next (by repeat (first | with_reducible exact Below.refl _ _ | with_reducible refine below_drewN ?_ _ | with_reducible refine Below.drew ?_ | with_reducible refine Below.alloc ?_ ?_ _ | with_reducible refine Below.setCell ?_ ?_ _ | omega | (focus (simp; omega)) | (focus (simp; done)))) hb7))
  replace BB := Lib.hid (Below.next (W := w) (by repeat (first | with_reducible exact BB.out | with_reducible exact Below.refl _ _ | with_reducible refine below_drewN ?_ _ | with_reducible refine Below.drew ?_ | with_reducible refine Below.alloc ?_ ?_ _ | with_reducible refine Below.setCell ?_ ?_ _ | (with_reducible refine Below.next ?_ (by assumption)) | ((with_reducible refine Below.far' (by assumption) ?_ ?_ ?_); (focus (first | omega | (simp; omega) | (simp; done))); (focus (first | omega | (simp; omega) | (simp; done)))) | omega | (focus (simp; omega)) | (focus (simp; done)))) hb7)
  go_wp2_with fail
  refine (heldFlash_c g0 g1 s 1 _ (FlashRd.below (FlashOwn.rd H4.out) (by repeat (first | with_reducible exact Below.refl _ _ | with_reducible refine below_drewN ?_ _ | with_reducible refine Below.drew ?_ | with_reducible refine Below.alloc ?_ ?_ _ | with_reducible refine Below.setCell ?_ ?_ _ | omega | (focus (simp; omega)) | (focus (simp; done))))) (by omega) (by omega) (by omega)).mono ?_
  rintro e w8 ⟨rfl, hb8⟩
  clear L1c0 L1c1 L1f
  replace L1 := Loc.carryB L1 (fun h => by ((repeat (first | with_reducible exact h | with_reducible refine Loc.drew ?_ | with_reducible refine Loc.drewN ?_ _ | with_reducible refine Loc.alloc ?_ _)); done)) hb8
  obtain ⟨L1c0, L1c1, L1f⟩ := L1.two
  have L1z8 := L1.lt
  clear L2c0 L2c1 L2f
  replace L2 := Loc.carryB L2 (fun h => by ((repeat (first | with_reducible exact h | with_reducible refine Loc.drew ?_ | with_reducible refine Loc.drewN ?_ _ | with_reducible refine Loc.alloc ?_ _)); done)) hb8
  obtain ⟨L2c0, L2c1, L2f⟩ := L2.two
  have L2z8 := L2.lt
  clear L6c0 L6c1 L6f
  replace L6 := Loc.carryB L6 (fun h => by ((repeat (first | with_reducible exact h | with_reducible refine Loc.drew ?_ | with_reducible refine Loc.drewN ?_ _ | with_reducible refine Loc.alloc ?_ _)); done)) hb8
  obtain ⟨L6c0, L6c1, L6f⟩ := L6.two
  have L6z8 := L6.lt
  have hz8 := hb8.size
  (try simp at hz8)
  replace H1 := Lib.hid (FlashOwn.below H1.out (Below.next (by repeat (first | with_reducible exact Below.refl _ _ | with_reducible refine below_drewN ?_ _ | with_reducible refine Below.drew ?_ | with_reducible refine Below.alloc ?_ ?_ _ | with_reducible refine Below.setCell ?_ ?_ _ | omega | (focus (simp; omega)) | (focus (simp; done)))) hb8))
  replace H4 := Lib.hid (FlashOwn.below H4.out (Below.next (by repeat (first | with_reducible exact Below.refl _ _ | with_reducible refine below_drewN ?_ _ | with_reducible refine Below.drew ?_ | with_reducible refine Below.alloc ?_ ?_ _ | with_reducible refine Below.setCell ?_ ?_ _ | omega | (focus (simp; omega)) | (focus (simp; done)))) hb8))
  replace H6 := Lib.hid (FlashOwn.below H6.out (Below.next (by repeat (first | with_reducible exact Below.refl _ _ | with_reducible refine below_drewN ?_ _ | with_reducible refine Below.drew ?_ | with_reducible refine Below.alloc ?_ ?_ _ | with_reducible refine Below.setCell ?_ ?_ _ | omega | (focus (simp; omega)) | (focus (simp; done)))) hb8))
  replace BB := Lib.hid (Below.next (W := w) (by repeat (first | with_reducible exact BB.out | with_reducible exact Below.refl _ _ | with_reducible refine below_drewN ?_ _ | with_reducible refine Below.drew ?_ | with_reducible refine Below.alloc ?_ ?_ _ | with_reducible refine Below.setCell ?_ ?_ _ | (with_reducible refine Below.next ?_ (by assumption)) | ((with_reducible refine Below.far' (by assumption) ?_ ?_ ?_); (focus (first | omega | (simp; omega) | (simp; done))); (focus (first | omega | (simp; omega) | (simp; done)))) | omega | (focus (simp; omega)) | (focus (simp; done)))) hb8)
  go_wp2
  go_ret
  exact ⟨rfl, (by repeat (first | with_reducible exact BB.out | with_reducible exact Below.refl _ _ | with_reducible refine below_drewN ?_ _ | with_reducible refine Below.drew ?_ | with_reducible refine Below.alloc ?_ ?_ _ | with_reducible refine Below.setCell ?_ ?_ _ | (with_reducible refine Below.next ?_ (by assumption)) | ((with_reducible refine Below.far' (by assumption) ?_ ?_ ?_); (focus (first | omega | (simp; omega) | (simp; done))); (focus (first | omega | (simp; omega) | (simp; done)))) | omega | (focus (simp; omega)) | (focus (simp; done))))⟩
set_option maxRecDepth 100000 in
theorem lifted (os : Os) (started : os.Started) (H : Type) (enc : TypeId × Value → H) :
    ReturnsInHanded {} Try.checked os 4 .any (Rows.fnExactNewFlashSpec.pre6 enc Try.prog Try.f4 Rows.fnExactNewFlashRow.domain false) (Rows.fnExactNewFlashSpec.post enc Try.prog Try.f4 false true false false) := by
  refine returnsInHanded_of_change (C := Try.checked) own_knob started (by kernel_rfl) Try.func4
    (ChangeSpec.witness6 (enc := enc) (C := Try.checked) false ⟨#[], #[.int .i64 0], []⟩ 8 (by kernel_rfl) (by kernel_rfl) (by kernel_rfl) (by kernel_rfl)) ?_
  intro W base args ds gs before hval0 hW hcnd _
  have hval : ∀ (j : Nat) t v, Try.f4.params[j]? = some t → args[j]? = some v → Value.okWide Try.prog W .any base t v := hval0
  have hW' := hW
  obtain ⟨p, q, hA0, hV, rfl, hfz, hnd⟩ := hW
  have hA : DataW.TrodAll enc Try.prog W 0 (fun _ => true) true Try.f4.params.toList args.toList ds p := hA0
  rw [Try.params4] at hA hval
  obtain ⟨v0, vs0, d0, ds0, p0, q0, hargs, rfl, rfl, h0, r0⟩ := trodAll_cons hA
  obtain ⟨rfl, rfl, rfl⟩ := trodAll_nil r0
  obtain rfl : args = #[v0] := by cases args; simp_all
  obtain ⟨rfl, rfl⟩ := trodVars_none hV
  obtain ⟨a0, rfl, rfl, rfl, e0⟩ := open_int Try.underlying3 (hval 0 3 v0 rfl rfl) h0
  clear hA0 hval0
  refine (walk a0 W (wf_i64 e0)).mono fun e W' ⟨he, bel⟩ => ?_
  subst he
  exact ⟨_, rfl, _, _, _, [], _, [], hW', trodAll_mk1 (shut_bool Try.underlying4 _), (trodAll_cons_mk (shut_int Try.underlying3 e0) trodAll_mk0), rfl, bel.frame _, fun h => by cases h⟩
theorem over : Rows.fnExactNewFlashRow.holds Try.pinned (OpenSpec.ofChange Rows.fnExactNewFlashSpec) :=
  OpenClaim.holds_of_wide 4 Try.f4 rfl rfl rfl rfl rfl rfl rfl ⟨rfl, rfl, rfl, rfl, rfl⟩ rfl rfl rfl rfl rfl (by kernel_rfl) Try.func4 (by kernel_rfl)
    (of_decide_eq_true (by kernel_rfl)) (by unfold Func.isWrapper; first | (rw [if_pos (by decide +kernel)]; kernel_rfl) | (rw [if_neg (by decide +kernel)]; exact ⟨rfl, rfl⟩))
    (fun os started H enc _ => lifted os started H enc)
theorem proved : Rows.FnExactNewFlashSaid := over
end ExNew
end Go.Proofs.Ytnnanknljpkdeaa
