/-
  FnExactStackValid: the program's StackValid returns what the reference's returns, for all arguments. No condition.
-/
import Derived.Test.YtlhbjfjphckifaaBase
import Derived.Test.YtlhbjfjphckifaaNum
import Derived.Test.YtlhbjfjphckifaaInts
import Derived.Test.YtlhbjfjphckifaaApp
import Derived.Test.YtlhbjfjphckifaaIntsW
import Derived.Test.YtlhbjfjphckifaaLib
import Derived.Test.YtlhbjfjphckifaaSpares
import Derived.Test.YtlhbjfjphckifaaOwn
import Derived.Test.YtlhbjfjphckifaaPart
import Derived.Test.YtlhbjfjphckifaaLine
import Derived.Test.YtlhbjfjphckifaaStack
import Derived.Test.YtlhbjfjphckifaaStackM
import Derived.Test.YtlhbjfjphckifaaStackC
import Derived.Test.YtlhbjfjphckifaaOpen
import Derived.Test.YtlhbjfjphckifaaRowsStack
namespace Go.Proofs.Ytlhbjfjphckifaa
open Go.RowKit Go.ChangeShapes Go.WideShapes Go.ChangeAt Go.Deep Go.Joins
namespace ExStv
set_option maxHeartbeats 8000000 in
theorem walk (x0 x1 x2 x3 : Value) (t : Stk)  (w : World) (hr : StackRd w [x0, x1, x2, x3] t)  :
    Calls Try.prog 7 #[.agg #[x0, x1, x2, x3]] w fun e w' => e = .returned (.bool true) ∧ Below w.heap.size w w' := by
  by_cases hsz : (1048576 : Int) < sizeStack t
  · go_enter Try.func7, Try.ntmps7
    go_wp2_with fail
    refine (szStack_bigc x0 x1 x2 x3 t 1048576 _ (StackRd.below hr (by repeat (first | with_reducible exact Below.refl _ _ | with_reducible refine below_drewN ?_ _ | with_reducible refine Below.drew ?_ | with_reducible refine Below.alloc ?_ ?_ _ | with_reducible refine Below.setCell ?_ ?_ _ | omega | (focus (simp; omega)) | (focus (simp; done))))) (by omega) hsz).mono ?_
    rintro e w1 ⟨rfl, hb1⟩
    go_wp2
    go_ret
    exact ⟨rfl, (by repeat (first | with_reducible exact Below.refl _ _ | with_reducible assumption | with_reducible refine below_drewN ?_ _ | with_reducible refine Below.drew ?_ | with_reducible refine Below.alloc ?_ ?_ _ | with_reducible refine Below.setCell ?_ ?_ _ | (with_reducible refine Below.next ?_ (by assumption)) | omega | (focus (simp; omega)) | (focus (simp; done))))⟩
  · have hs : sizeStack t ≤ 1048576 := by omega
    obtain ⟨s, hse⟩ : ∃ s, s = stackB t := ⟨_, rfl⟩
    have HS := Lib.hid hse
    clear hse
    go_enter Try.func7, Try.ntmps7
    have L0 := Loc.newAt w [x0, x1, x2, x3] 28 (b := w.heap.size) rfl
    have BB : Hid (Below w.heap.size w w) := Lib.hid (Below.refl _ _)
    have RR := Lib.hid hr
    go_wp2_with fail
    refine (szStack_okc x0 x1 x2 x3 t 1048576 _ (StackRd.below RR.out (by repeat (first | with_reducible exact Below.refl _ _ | with_reducible refine below_drewN ?_ _ | with_reducible refine Below.drew ?_ | with_reducible refine Below.alloc ?_ ?_ _ | with_reducible refine Below.setCell ?_ ?_ _ | omega | (focus (simp; omega)) | (focus (simp; done))))) (by omega) (by omega)).mono ?_
    rintro e w1 ⟨rfl, hb1⟩
    replace L0 := Loc.carryB L0 (fun h => by ((repeat (first | with_reducible exact h | with_reducible refine Loc.drew ?_ | with_reducible refine Loc.drewN ?_ _ | with_reducible refine Loc.alloc ?_ _)); done)) hb1
    obtain ⟨L0c0, L0c1, L0c2, L0c3, L0f⟩ := L0.four
    have L0z1 := L0.lt
    have hz1 := hb1.size
    (try simp at hz1)
    replace BB := Lib.hid (Below.next (W := w) (by repeat (first | with_reducible exact BB.out | with_reducible exact Below.refl _ _ | with_reducible refine below_drewN ?_ _ | with_reducible refine Below.drew ?_ | with_reducible refine Below.alloc ?_ ?_ _ | with_reducible refine Below.setCell ?_ ?_ _ | (with_reducible refine Below.next ?_ (by assumption)) | ((with_reducible refine Below.far' (by assumption) ?_ ?_ ?_); (focus (first | omega | (simp; omega) | (simp; done))); (focus (first | omega | (simp; omega) | (simp; done)))) | omega | (focus (simp; omega)) | (focus (simp; done)))) hb1)
    replace RR := Lib.hid (StackRd.below RR.out (Below.next (by repeat (first | with_reducible exact Below.refl _ _ | with_reducible refine below_drewN ?_ _ | with_reducible refine Below.drew ?_ | with_reducible refine Below.alloc ?_ ?_ _ | with_reducible refine Below.setCell ?_ ?_ _ | omega | (focus (simp; omega)) | (focus (simp; done)))) hb1))
    go_wp2_with fail
    refine (toStack_c x0 x1 x2 x3 t _ (StackRd.below RR.out (by repeat (first | with_reducible exact Below.refl _ _ | with_reducible refine below_drewN ?_ _ | with_reducible refine Below.drew ?_ | with_reducible refine Below.alloc ?_ ?_ _ | with_reducible refine Below.setCell ?_ ?_ _ | omega | (focus (simp; omega)) | (focus (simp; done))))) (by omega)).mono ?_
    rintro e w2 ⟨a0, a1, a2, a3, rfl, O2, hb2⟩
    clear L0c0 L0c1 L0c2 L0c3 L0f
    replace L0 := Loc.carryB L0 (fun h => by ((repeat (first | with_reducible exact h | with_reducible refine Loc.drew ?_ | with_reducible refine Loc.drewN ?_ _ | with_reducible refine Loc.alloc ?_ _)); done)) hb2
    obtain ⟨L0c0, L0c1, L0c2, L0c3, L0f⟩ := L0.four
    have L0z2 := L0.lt
    have hz2 := hb2.size
    (try simp at hz2)
    replace BB := Lib.hid (Below.next (W := w) (by repeat (first | with_reducible exact BB.out | with_reducible exact Below.refl _ _ | with_reducible refine below_drewN ?_ _ | with_reducible refine Below.drew ?_ | with_reducible refine Below.alloc ?_ ?_ _ | with_reducible refine Below.setCell ?_ ?_ _ | (with_reducible refine Below.next ?_ (by assumption)) | ((with_reducible refine Below.far' (by assumption) ?_ ?_ ?_); (focus (first | omega | (simp; omega) | (simp; done))); (focus (first | omega | (simp; omega) | (simp; done)))) | omega | (focus (simp; omega)) | (focus (simp; done)))) hb2)
    replace RR := Lib.hid (StackRd.below RR.out (Below.next (by repeat (first | with_reducible exact Below.refl _ _ | with_reducible refine below_drewN ?_ _ | with_reducible refine Below.drew ?_ | with_reducible refine Below.alloc ?_ ?_ _ | with_reducible refine Below.setCell ?_ ?_ _ | omega | (focus (simp; omega)) | (focus (simp; done)))) hb2))
    go_wp2_with fail
    refine (specStack_c a0 a1 a2 a3 t _ (StackRd.below (StackOwn.rd O2) (by repeat (first | with_reducible exact Below.refl _ _ | with_reducible refine below_drewN ?_ _ | with_reducible refine Below.drew ?_ | with_reducible refine Below.alloc ?_ ?_ _ | with_reducible refine Below.setCell ?_ ?_ _ | omega | (focus (simp; omega)) | (focus (simp; done))))) (by omega)).mono ?_
    rw [← HS.out]
    rintro e w3 ⟨rfl, hb3⟩
    clear L0c0 L0c1 L0c2 L0c3 L0f
    replace L0 := Loc.carryB L0 (fun h => by ((repeat (first | with_reducible exact h | with_reducible refine Loc.drew ?_ | with_reducible refine Loc.drewN ?_ _ | with_reducible refine Loc.alloc ?_ _)); done)) hb3
    obtain ⟨L0c0, L0c1, L0c2, L0c3, L0f⟩ := L0.four
    have L0z3 := L0.lt
    have hz3 := hb3.size
    (try simp at hz3)
    replace BB := Lib.hid (Below.next (W := w) (by repeat (first | with_reducible exact BB.out | with_reducible exact Below.refl _ _ | with_reducible refine below_drewN ?_ _ | with_reducible refine Below.drew ?_ | with_reducible refine Below.alloc ?_ ?_ _ | with_reducible refine Below.setCell ?_ ?_ _ | (with_reducible refine Below.next ?_ (by assumption)) | ((with_reducible refine Below.far' (by assumption) ?_ ?_ ?_); (focus (first | omega | (simp; omega) | (simp; done))); (focus (first | omega | (simp; omega) | (simp; done)))) | omega | (focus (simp; omega)) | (focus (simp; done)))) hb3)
    replace RR := Lib.hid (StackRd.below RR.out (Below.next (by repeat (first | with_reducible exact Below.refl _ _ | with_reducible refine below_drewN ?_ _ | with_reducible refine Below.drew ?_ | with_reducible refine Below.alloc ?_ ?_ _ | with_reducible refine Below.setCell ?_ ?_ _ | omega | (focus (simp; omega)) | (focus (simp; done)))) hb3))
    go_wp2_with fail
    refine (toStack_c x0 x1 x2 x3 t _ (StackRd.below RR.out (by repeat (first | with_reducible exact Below.refl _ _ | with_reducible refine below_drewN ?_ _ | with_reducible refine Below.drew ?_ | with_reducible refine Below.alloc ?_ ?_ _ | with_reducible refine Below.setCell ?_ ?_ _ | omega | (focus (simp; omega)) | (focus (simp; done))))) (by omega)).mono ?_
    rintro e w4 ⟨d0, d1, d2, d3, rfl, O4, hb4⟩
    clear L0c0 L0c1 L0c2 L0c3 L0f
    replace L0 := Loc.carryB L0 (fun h => by ((repeat (first | with_reducible exact h | with_reducible refine Loc.drew ?_ | with_reducible refine Loc.drewN ?_ _ | with_reducible refine Loc.alloc ?_ _)); done)) hb4
    obtain ⟨L0c0, L0c1, L0c2, L0c3, L0f⟩ := L0.four
    have L0z4 := L0.lt
    have hz4 := hb4.size
    (try simp at hz4)
    replace BB := Lib.hid (Below.next (W := w) (by repeat (first | with_reducible exact BB.out | with_reducible exact Below.refl _ _ | with_reducible refine below_drewN ?_ _ | with_reducible refine Below.drew ?_ | with_reducible refine Below.alloc ?_ ?_ _ | with_reducible refine Below.setCell ?_ ?_ _ | (with_reducible refine Below.next ?_ (by assumption)) | ((with_reducible refine Below.far' (by assumption) ?_ ?_ ?_); (focus (first | omega | (simp; omega) | (simp; done))); (focus (first | omega | (simp; omega) | (simp; done)))) | omega | (focus (simp; omega)) | (focus (simp; done)))) hb4)
    replace RR := Lib.hid (StackRd.below RR.out (Below.next (by repeat (first | with_reducible exact Below.refl _ _ | with_reducible refine below_drewN ?_ _ | with_reducible refine Below.drew ?_ | with_reducible refine Below.alloc ?_ ?_ _ | with_reducible refine Below.setCell ?_ ?_ _ | omega | (focus (simp; omega)) | (focus (simp; done)))) hb4))
    have H4 := Lib.hid O4
    have L4 := Loc.newAt w4 [d0, d1, d2, d3] 35 (b := w4.heap.size) rfl
    have od0 := store_one (StackOwn.one O4 d0 (by simp))
    have od1 := store_one (StackOwn.one O4 d1 (by simp))
    have od2 := store_one (StackOwn.one O4 d2 (by simp))
    have od3 := store_one (StackOwn.one O4 d3 (by simp))
    go_wp2_with fail
    refine (implStack_c d0 d1 d2 d3 t _ (StackRd.below (StackOwn.rd O4) (by repeat (first | with_reducible exact Below.refl _ _ | with_reducible refine below_drewN ?_ _ | with_reducible refine Below.drew ?_ | with_reducible refine Below.alloc ?_ ?_ _ | with_reducible refine Below.setCell ?_ ?_ _ | omega | (focus (simp; omega)) | (focus (simp; done))))) (by omega)).mono ?_
    rw [← HS.out]
    rintro e w5 ⟨rfl, hb5⟩
    clear L0c0 L0c1 L0c2 L0c3 L0f
    replace L0 := Loc.carryB L0 (fun h => by ((repeat (first | with_reducible exact h | with_reducible refine Loc.drew ?_ | with_reducible refine Loc.drewN ?_ _ | with_reducible refine Loc.alloc ?_ _)); done)) hb5
    obtain ⟨L0c0, L0c1, L0c2, L0c3, L0f⟩ := L0.four
    have L0z5 := L0.lt
    replace L4 := Loc.carryB L4 (fun h => by ((repeat (first | with_reducible exact h | with_reducible refine Loc.drew ?_ | with_reducible refine Loc.drewN ?_ _ | with_reducible refine Loc.alloc ?_ _)); done)) hb5
    obtain ⟨L4c0, L4c1, L4c2, L4c3, L4f⟩ := L4.four
    have L4z5 := L4.lt
    have hz5 := hb5.size
    (try simp at hz5)
    replace BB := Lib.hid (Below.next (W := w) (by repeat (first | with_reducible exact BB.out | with_reducible exact Below.refl _ _ | with_reducible refine below_drewN ?_ _ | with_reducible refine Below.drew ?_ | with_reducible refine Below.alloc ?_ ?_ _ | with_reducible refine Below.setCell ?_ ?_ _ | (with_reducible refine Below.next ?_ (by assumption)) | ((with_reducible refine Below.far' (by assumption) ?_ ?_ ?_); (focus (first | omega | (simp; omega) | (simp; done))); (focus (first | omega | (simp; omega) | (simp; done)))) | omega | (focus (simp; omega)) | (focus (simp; done)))) hb5)
    replace RR := Lib.hid (StackRd.below RR.out (Below.next (by repeat (first | with_reducible exact Below.refl _ _ | with_reducible refine below_drewN ?_ _ | with_reducible refine Below.drew ?_ | with_reducible refine Below.alloc ?_ ?_ _ | with_reducible refine Below.setCell ?_ ?_ _ | omega | (focus (simp; omega)) | (focus (simp; done)))) hb5))
    replace H4 := Lib.hid (StackOwn.below H4.out (Below.next (by repeat (first | with_reducible exact Below.refl _ _ | with_reducible refine below_drewN ?_ _ | with_reducible refine Below.drew ?_ | with_reducible refine Below.alloc ?_ ?_ _ | with_reducible refine Below.setCell ?_ ?_ _ | omega | (focus (simp; omega)) | (focus (simp; done)))) hb5))
    go_wp2_with fail
    go_region_held3 (fun w' => w'.cell? ⟨w.heap.size, 0, none⟩ = some x0 ∧ w'.cell? ⟨w.heap.size, 1, none⟩ = some x1 ∧ w'.cell? ⟨w.heap.size, 2, none⟩ = some x2 ∧ w'.cell? ⟨w.heap.size, 3, none⟩ = some x3 ∧ w'.cell? ⟨w4.heap.size, 0, none⟩ = some d0 ∧ w'.cell? ⟨w4.heap.size, 1, none⟩ = some d1 ∧ w'.cell? ⟨w4.heap.size, 2, none⟩ = some d2 ∧ w'.cell? ⟨w4.heap.size, 3, none⟩ = some d3) (first | go_keep | (refine ⟨?_, ?_, ?_, ?_, ?_, ?_, ?_, ?_⟩ <;> assumption))
      (first
        | (go_at_call 19; (with_reducible refine (toStack_c x0 x1 x2 x3 t _ (StackRd.below RR.out (by repeat (first | with_reducible exact Below.refl _ _ | with_reducible refine below_drewN ?_ _ | with_reducible refine Below.drew ?_ | with_reducible refine Below.alloc ?_ ?_ _ | with_reducible refine Below.setCell ?_ ?_ _ | omega | (focus (simp; omega)) | (focus (simp; done))))) (by omega)).mono ?_); rintro e w7 ⟨p0, p1, p2, p3, rfl, O7, hb7⟩; have L0u := Loc.carryB L0 (fun h => by ((repeat (first | with_reducible exact h | with_reducible refine Loc.drew ?_ | with_reducible refine Loc.drewN ?_ _ | with_reducible refine Loc.alloc ?_ _)); done)) hb7; obtain ⟨L0uc0, L0uc1, L0uc2, L0uc3, L0uf⟩ := L0u.four; have L0uz := L0u.lt; have L4u := Loc.carryB L4 (fun h => by ((repeat (first | with_reducible exact h | with_reducible refine Loc.drew ?_ | with_reducible refine Loc.drewN ?_ _ | with_reducible refine Loc.alloc ?_ _)); done)) hb7; obtain ⟨L4uc0, L4uc1, L4uc2, L4uc3, L4uf⟩ := L4u.four; have L4uz := L4u.lt)
        | (go_at_call 21; (with_reducible refine (eqStack_c d0 d1 d2 d3 p0 p1 p2 p3 t t _ (StackRd.below (StackRd.below (StackOwn.rd H4.out) (Below.next (by repeat (first | with_reducible exact Below.refl _ _ | with_reducible refine below_drewN ?_ _ | with_reducible refine Below.drew ?_ | with_reducible refine Below.alloc ?_ ?_ _ | with_reducible refine Below.setCell ?_ ?_ _ | omega | (focus (simp; omega)) | (focus (simp; done)))) hb7)) (by repeat (first | with_reducible exact Below.refl _ _ | with_reducible refine below_drewN ?_ _ | with_reducible refine Below.drew ?_ | with_reducible refine Below.alloc ?_ ?_ _ | with_reducible refine Below.setCell ?_ ?_ _ | omega | (focus (simp; omega)) | (focus (simp; done))))) (StackRd.below (StackOwn.rd O7) (by repeat (first | with_reducible exact Below.refl _ _ | with_reducible refine below_drewN ?_ _ | with_reducible refine Below.drew ?_ | with_reducible refine Below.alloc ?_ ?_ _ | with_reducible refine Below.setCell ?_ ?_ _ | omega | (focus (simp; omega)) | (focus (simp; done))))) (by omega) (by omega)).mono ?_); rw [show decide (t = t) = true by simp]; rintro e w8 ⟨rfl, hb8⟩; have L0v := Loc.carryB L0u (fun h => by ((repeat (first | with_reducible exact h | with_reducible refine Loc.drew ?_ | with_reducible refine Loc.drewN ?_ _ | with_reducible refine Loc.alloc ?_ _)); done)) hb8; obtain ⟨L0vc0, L0vc1, L0vc2, L0vc3, L0vf⟩ := L0v.four; have L0vz := L0v.lt; have L4v := Loc.carryB L4u (fun h => by ((repeat (first | with_reducible exact h | with_reducible refine Loc.drew ?_ | with_reducible refine Loc.drewN ?_ _ | with_reducible refine Loc.alloc ?_ _)); done)) hb8; obtain ⟨L4vc0, L4vc1, L4vc2, L4vc3, L4vf⟩ := L4v.four; have L4vz := L4v.lt))
    replace BB := Lib.hid (Below.next (W := w) (Below.next (W := w) (by repeat (first | with_reducible exact BB.out | with_reducible exact Below.refl _ _ | with_reducible refine below_drewN ?_ _ | with_reducible refine Below.drew ?_ | with_reducible refine Below.alloc ?_ ?_ _ | with_reducible refine Below.setCell ?_ ?_ _ | (with_reducible refine Below.next ?_ (by assumption)) | ((with_reducible refine Below.far' (by assumption) ?_ ?_ ?_); (focus (first | omega | (simp; omega) | (simp; done))); (focus (first | omega | (simp; omega) | (simp; done)))) | omega | (focus (simp; omega)) | (focus (simp; done)))) hb7) hb8)
    replace RR := Lib.hid (StackRd.below (StackRd.below RR.out (Below.next (by repeat (first | with_reducible exact Below.refl _ _ | with_reducible refine below_drewN ?_ _ | with_reducible refine Below.drew ?_ | with_reducible refine Below.alloc ?_ ?_ _ | with_reducible refine Below.setCell ?_ ?_ _ | omega | (focus (simp; omega)) | (focus (simp; done)))) hb7)) (Below.next (by repeat (first | with_reducible exact Below.refl _ _ | with_reducible refine below_drewN ?_ _ | with_reducible refine Below.drew ?_ | with_reducible refine Below.alloc ?_ ?_ _ | with_reducible refine Below.setCell ?_ ?_ _ | omega | (focus (simp; omega)) | (focus (simp; done)))) hb8))
    replace H4 := Lib.hid (StackOwn.below (StackOwn.below H4.out (Below.next (by repeat (first | with_reducible exact Below.refl _ _ | with_reducible refine below_drewN ?_ _ | with_reducible refine Below.drew ?_ | with_reducible refine Below.alloc ?_ ?_ _ | with_reducible refine Below.setCell ?_ ?_ _ | omega | (focus (simp; omega)) | (focus (simp; done)))) hb7)) (Below.next (by repeat (first | with_reducible exact Below.refl _ _ | with_reducible refine below_drewN ?_ _ | with_reducible refine Below.drew ?_ | with_reducible refine Below.alloc ?_ ?_ _ | with_reducible refine Below.setCell ?_ ?_ _ | omega | (focus (simp; omega)) | (focus (simp; done)))) hb8))
    clear L0c0 L0c1 L0c2 L0c3 L0f
    clear L0uc0 L0uc1 L0uc2 L0uc3 L0uf
    clear L0 L0u
    have L0 := L0v
    clear L0v L0vc0 L0vc1 L0vc2 L0vc3 L0vf
    obtain ⟨L0c0, L0c1, L0c2, L0c3, L0f⟩ := L0.four
    clear L4c0 L4c1 L4c2 L4c3 L4f
    clear L4uc0 L4uc1 L4uc2 L4uc3 L4uf
    clear L4 L4u
    have L4 := L4v
    clear L4v L4vc0 L4vc1 L4vc2 L4vc3 L4vf
    obtain ⟨L4c0, L4c1, L4c2, L4c3, L4f⟩ := L4.four
    have hz7 := hb7.size
    (try simp at hz7)
    have hz8 := hb8.size
    (try simp at hz8)
    clear hb1
    clear hb2
    clear hb3
    clear hb4
    clear hb5
    clear hb7
    clear hb8
    go_wp2
    go_ret
    exact ⟨rfl, (by repeat (first | with_reducible exact BB.out | with_reducible exact Below.refl _ _ | with_reducible refine below_drewN ?_ _ | with_reducible refine Below.drew ?_ | with_reducible refine Below.alloc ?_ ?_ _ | with_reducible refine Below.setCell ?_ ?_ _ | (with_reducible refine Below.next ?_ (by assumption)) | ((with_reducible refine Below.far' (by assumption) ?_ ?_ ?_); (focus (first | omega | (simp; omega) | (simp; done))); (focus (first | omega | (simp; omega) | (simp; done)))) | omega | (focus (simp; omega)) | (focus (simp; done))))⟩
set_option maxRecDepth 100000 in
theorem lifted (os : Os) (started : os.Started) (H : Type) (enc : TypeId × Value → H) :
    ReturnsInHanded {} Try.checked os 7 .any (Rows.fnExactStackValidSpec.pre6 enc Try.prog Try.f7 Rows.fnExactStackValidRow.domain false) (Rows.fnExactStackValidSpec.post enc Try.prog Try.f7 false true false false) := by
  refine returnsInHanded_of_change (C := Try.checked) own_knob started (by kernel_rfl) Try.func7
    (ChangeSpec.witness6 (enc := enc) (C := Try.checked) false ⟨#[], #[.agg #[.slice none 0 0, .slice none 0 0, .slice none 0 0, .int .i64 0]], []⟩ 8 (by kernel_rfl) (by kernel_rfl) (by kernel_rfl) (by kernel_rfl)) ?_
  intro W base args ds gs before hval0 hW hcnd _
  have hval : ∀ (j : Nat) t v, Try.f7.params[j]? = some t → args[j]? = some v → Value.okWide Try.prog W .any base t v := hval0
  have hW' := hW
  obtain ⟨p, q, hA0, hV, rfl, hfz, hnd⟩ := hW
  have hA : DataW.TrodAll enc Try.prog W 0 (fun _ => true) true Try.f7.params.toList args.toList ds p := hA0
  rw [Try.params7] at hA hval
  obtain ⟨v0, vs0, d0, ds0, p0, q0, hargs, rfl, rfl, h0, r0⟩ := trodAll_cons hA
  obtain ⟨rfl, rfl, rfl⟩ := trodAll_nil r0
  obtain rfl : args = #[v0] := by cases args; simp_all
  obtain ⟨rfl, rfl⟩ := trodVars_none hV
  have k0 := h0
  have lt0 : ∀ x ∈ p0, x.block < W.heap.size := by obtain ⟨m, hm⟩ := k0; exact DataW.trod_lt m _ _ _ hm
  obtain ⟨x0, y0, z0, u0, m0, rfl, rd0⟩ := open_stack Try.underlying28 Try.underlying26 (by kernel_rfl) ⟨⟨by kernel_rfl, by kernel_rfl⟩, ⟨by kernel_rfl, by kernel_rfl⟩, by kernel_rfl⟩ (by kernel_rfl) (by kernel_rfl) Try.underlying22 Try.underlying3 (by kernel_rfl) Try.underlying23 Try.underlying100 (by kernel_rfl) (by kernel_rfl) Try.underlying3 Try.underlying3 Try.underlying24 Try.underlying117 (by kernel_rfl) (by kernel_rfl) Try.underlying3 Try.underlying3 Try.underlying4 Try.underlying3 (hval 0 28 v0 rfl rfl) h0
  clear hA0 hval0
  refine (walk x0 y0 z0 u0 m0 W rd0).mono fun e W' ⟨he, bel⟩ => ?_
  subst he
  exact ⟨_, rfl, _, _, _, [], _, [], hW', trodAll_mk1 (shut_bool Try.underlying4 _), (trodAll_cons_mk (Below.trod laid_out (by kernel_rfl) (of_decide_eq_true (by kernel_rfl)) k0 bel lt0) trodAll_mk0), rfl, bel.frame _, fun h => by cases h⟩
theorem over : Rows.fnExactStackValidRow.holds Try.pinned (OpenSpec.ofChange Rows.fnExactStackValidSpec) :=
  OpenClaim.holds_of_wide 7 Try.f7 rfl rfl rfl rfl rfl rfl rfl ⟨rfl, rfl, rfl, rfl, rfl⟩ rfl rfl rfl rfl rfl (by kernel_rfl) Try.func7 (by kernel_rfl)
    (of_decide_eq_true (by kernel_rfl)) (by unfold Func.isWrapper; first | (rw [if_pos (by decide +kernel)]; kernel_rfl) | (rw [if_neg (by decide +kernel)]; exact ⟨rfl, rfl⟩))
    (fun os started H enc _ => lifted os started H enc)
theorem proved : Rows.FnExactStackValidSaid := over
end ExStv
end Go.Proofs.Ytlhbjfjphckifaa
