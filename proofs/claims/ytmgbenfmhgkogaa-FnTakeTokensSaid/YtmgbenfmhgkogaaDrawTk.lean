/-
  What the draw of FnTakeTokens gives. Conditions: the count of draws stays below 10^9.
-/
import Derived.Test.YtmgbenfmhgkogaaBase
import Derived.Test.YtmgbenfmhgkogaaNum
import Derived.Test.YtmgbenfmhgkogaaInts
import Derived.Test.YtmgbenfmhgkogaaApp
import Derived.Test.YtmgbenfmhgkogaaIntsW
import Derived.Test.YtmgbenfmhgkogaaLib
import Derived.Test.YtmgbenfmhgkogaaDraw
import Derived.Test.YtmgbenfmhgkogaaDrawK
import Derived.Test.YtmgbenfmhgkogaaOwn
import Derived.Test.YtmgbenfmhgkogaaBucket
import Derived.Test.YtmgbenfmhgkogaaDrawTb
import Derived.IntWalk
namespace Go.Proofs.Ytmgbenfmhgkogaa
open Go.RowKit
section
variable {P : Program} {md : Region.Mode} {ops : Array Oper} {Q : Exit → Act → World → Prop}
theorem wpAnyH_mono {S S' : World → Prop} (h : ∀ w, S' w → S w) : ∀ (fuel : Nat) (listed : Array Bool) (a : Act) (w : World), wpAnyH P md ops Q S' fuel listed a w → wpAnyH P md ops Q S fuel listed a w
  | 0, _, _, _, H => H
  | fuel + 1, _, _, _, H => ⟨H.1, fun i hi => wpOp_mono (fun _ _ h3 => ⟨h _ h3.1, wpAnyH_mono h fuel _ _ _ h3.2⟩) (H.2 i hi)⟩
theorem wpAnyH_more {S S' : World → Prop} {fuel : Nat} {listed : Array Bool} {a : Act} {w : World} (h : ∀ w, S' w → S w) (hS : S' w) (H : S' w → wpAnyH P md ops Q S' fuel listed a w) : wpAnyH P md ops Q S fuel listed a w :=
  wpAnyH_mono h fuel listed a w (H hS)
end
theorem lit_in (l : List Int) (r : Int) (h0 : 0 ≤ r) (h1 : r < l.length) : ∃ x : Int, x ∈ l ∧ ∀ (w : World) (b : Nat), Loc w b (l.map (Value.int .i64)) → w.cell? ⟨b, r.toNat, none⟩ = some (.int .i64 x) := by
  have hr : r.toNat < l.length := by omega
  exact ⟨l[r.toNat], List.getElem_mem hr, fun w b h => h.cell (by simp [hr])⟩
/-- what goes through the region: the bucket's box, the result's box, the reader, only new blocks -/
structure TkP (w : World) (R X : Nat) (r2 r3 : Int) (cs : List Value) (p : Int) (W : World) : Prop where
  box : Loc W X [.int .i64 r2, .int .i64 r3]
  res : Loc W w.heap.size cs
  rd : Rdr W 60 w.heap.size R p
  bel : Below w.heap.size w W
  hX : X ≠ R
  h0 : w.heap.size ≠ R
  hX0 : X ≠ w.heap.size
section
variable {w W W' : World} {R X : Nat} {r2 r3 p p' : Int} {cs : List Value}
theorem TkP.alloc (h : TkP w R X r2 r3 cs p W) (o : Obj) : TkP w R X r2 r3 cs p (W.alloc o) :=
  ⟨Loc.alloc h.box o, Loc.alloc h.res o, Rdr.alloc h.rd o, Below.alloc h.bel h.bel.size o, h.hX, h.h0, h.hX0⟩
theorem TkP.pick (h : TkP w R X r2 r3 cs p W) (hg : W.grownBy W' (some R)) (hR : Rdr W' 60 w.heap.size R p') : TkP w R X r2 r3 cs p' W' :=
  ⟨Loc.grown h.box hg h.hX, Loc.grown h.res hg h.h0, hR, below_of_grown h.bel hg h.bel.size hR.ge, h.hX, h.h0, h.hX0⟩
theorem TkP.store {u v : Int} (h : TkP w R X r2 r3 [.int .i64 u, .int .i64 v] p W) : TkP w R X r2 r3 [.int .i64 r2, .int .i64 r3] p ((W.setCell ⟨w.heap.size, 0, none⟩ (.int .i64 r2)).setCell ⟨w.heap.size, 1, none⟩ (.int .i64 r3)) :=
  ⟨Loc.other' (p := ⟨w.heap.size, 1, none⟩) h.hX0 (Loc.other' (p := ⟨w.heap.size, 0, none⟩) h.hX0 h.box _) _, by simpa using (h.res.set 0 (.int .i64 r2)).set 1 (.int .i64 r3),
    Rdr.other (Rdr.other h.rd _ _ (Nat.le_refl _) h.h0) _ _ (Nat.le_refl _) h.h0, Below.setCell (Below.setCell h.bel (Nat.le_refl _) _) (Nat.le_refl _) _, h.hX, h.h0, h.hX0⟩
end
set_option linter.unusedSimpArgs false in
set_option maxRecDepth 100000 in
set_option maxHeartbeats 8000000 in
theorem drawTake_any (A : Option Addr) (c : Nat) (l : List Int) (w : World) (hl : l.length ≤ c) (hm : c ≤ maxLen) (hr : Rd eByte w A l) (hb : ∀ x ∈ l, 0 ≤ x ∧ x ≤ 255) :
    Calls Try.prog 16 #[.slice A l.length c] w (FreshTake w) := by
  have HB := Lib.hid hb
  clear hb
  have L0 := Loc.new w [.int .i64 0, .int .i64 0] 24
  have hr1 := Lib.hid (Rd.alloc hr (.cells #[.int .i64 0, .int .i64 0] 24))
  have hA : Hid (∀ b off, 0 < l.length → A = some ⟨b, off, none⟩ → b < w.heap.size) := Lib.hid fun _ _ h0 hA => hr.lt h0 hA
  go_enter Try.func16, Try.ntmps16
  go_wp2_with fail
  refine (l20Open_any A c l _ hl hm hr1.out HB.out w.heap.size hA.out (by simp)).mono ?_
  rintro e w1 ⟨R, rfl, hR1, hge, hb1⟩
  replace L0 := Loc.carryB L0 (fun h => by ((repeat (first | with_reducible exact h | with_reducible refine Loc.drew ?_ | with_reducible refine Loc.drewN ?_ _ | with_reducible refine Loc.alloc ?_ _)); done)) hb1
  have HB1 : Hid (Below w.heap.size w w1) := Lib.hid (Below.next (W := w) (by repeat (first | with_reducible exact Below.refl _ _ | with_reducible refine below_drewN ?_ _ | with_reducible refine Below.drew ?_ | with_reducible refine Below.alloc ?_ ?_ _ | with_reducible refine Below.setCell ?_ ?_ _ | omega | (focus (simp; omega)) | (focus (simp; done)))) hb1)
  have hz1 := hb1.size
  simp at hge hz1
  clear hb1
  go_wp2_with fail
  refine (pick_any w.heap.size R (0) (60) _ (by ((repeat (first | with_reducible assumption | with_reducible refine Rdr.drew ?_ | with_reducible refine Rdr.drewN ?_ _ | with_reducible refine Rdr.alloc ?_ _ | with_reducible refine Rdr.other ?_ _ _ ?_ ?_ | omega)); done)) (by omega) (by omega) (by omega)).mono ?_
  rintro e w2 ⟨r2, rfl, a2, b2, hR2, hg2⟩
  have b2' := b2 (by omega)
  clear b2
  replace hR2 := hR2.to (p' := 0 + 1) (by omega)
  have hz2 := hg2.size
  (try simp at hz2)
  have hlt2 := hR2.lt
  have ne2 : w2.heap.size ≠ R := by omega
  replace L0 := Loc.carry L0 (fun h => by ((repeat (first | with_reducible exact h | with_reducible refine Loc.drew ?_ | with_reducible refine Loc.drewN ?_ _ | with_reducible refine Loc.alloc ?_ _)); done)) hg2 (by omega)
  go_wp2_with fail
  refine (pick_any w.heap.size R (0 + 1) (40) _ (by ((repeat (first | with_reducible assumption | with_reducible refine Rdr.drew ?_ | with_reducible refine Rdr.drewN ?_ _ | with_reducible refine Rdr.alloc ?_ _ | with_reducible refine Rdr.other ?_ _ _ ?_ ?_ | omega)); done)) (by omega) (by omega) (by omega)).mono ?_
  rintro e w3 ⟨r3, rfl, a3, b3, hR3, hg3⟩
  have b3' := b3 (by omega)
  clear b3
  replace hR3 := hR3.to (p' := 0 + 1 + 1) (by omega)
  have hz3 := hg3.size
  (try simp at hz3)
  have hlt3 := hR3.lt
  have ne3 : w3.heap.size ≠ R := by omega
  replace L0 := Loc.carry L0 (fun h => by ((repeat (first | with_reducible exact h | with_reducible refine Loc.drew ?_ | with_reducible refine Loc.drewN ?_ _ | with_reducible refine Loc.alloc ?_ _)); done)) hg3 (by omega)
  have HB3 := Lib.hid (below_of_grown (below_of_grown HB1.out hg2 (by omega) (by omega)) hg3 (by omega) (by omega))
  have z03 := L0.lt
  obtain ⟨va, hva⟩ : ∃ x, x = (w3.alloc (.cells #[.int .i64 r2, .int .i64 r3] 24)).drew := ⟨_, rfl⟩
  have Pva : TkP w R w3.heap.size r2 r3 [.int .i64 0, .int .i64 0] (0 + 1 + 1) va := by
    rw [hva]
    exact ⟨Loc.drew (Loc.newAt w3 [.int .i64 r2, .int .i64 r3] 24 rfl), Loc.drew (Loc.alloc L0 _), Rdr.drew (Rdr.alloc hR3 _), Below.drew (Below.alloc HB3.out (by omega) _), by omega, by omega, by omega⟩
  have LS := Loc.newAt w3 [.int .i64 r2, .int .i64 r3] 24 (b := w3.heap.size) rfl
  clear hg2 hg3 HB1 HB3 L0 hR1 hR2 hR3
  obtain ⟨x0, x1, xf⟩ := LS.two
  go_wp2
  refine wp_region_noPanic ?_
  refine wp_region_held_drew (S := fun w' => w'.cell? ⟨w3.heap.size, 0, none⟩ = some (.int .i64 r2) ∧ w'.cell? ⟨w3.heap.size, 1, none⟩ = some (.int .i64 r3)) (by kernel_rfl) ?_ (fun hHeld => ?_)
  focus (exact ⟨x0, x1⟩)
  rw [← hva] at hHeld
  rw [← hva]
  clear hva LS x0 x1 xf
  (refine wpAnyH_take (i := 0) (oi := _) (v := ?_) rfl (by kernel_rfl) (by kernel_rfl) (by kernel_rfl) (fun _ _ _ h => h) (Or.inl ⟨by rfl, ?_⟩) (by assumption) ?_; rotate_left; (focus (intro wS hSw; (try dsimp only at hSw); go_simp; (try with_reducible rfl); done)); (try simp only [Act.put, List.setIfInBounds_toArray, List.set_cons_zero, List.set_cons_succ]))
  (refine wpAnyH_take (i := 1) (oi := _) (v := ?_) rfl (by kernel_rfl) (by kernel_rfl) (by kernel_rfl) (fun _ _ _ h => h) (Or.inl ⟨by rfl, ?_⟩) (by assumption) ?_; rotate_left; (focus (intro wS hSw; (try dsimp only at hSw); go_simp; (try with_reducible rfl); done)); (try simp only [Act.put, List.setIfInBounds_toArray, List.set_cons_zero, List.set_cons_succ]))
  (refine wpAnyH_take (i := 3) (oi := _) (v := ?_) rfl (by kernel_rfl) (by kernel_rfl) (by kernel_rfl) (fun _ _ _ h => h) (Or.inl ⟨by rfl, ?_⟩) (by assumption) ?_; rotate_left; (focus (intro wS hSw; (try dsimp only at hSw); go_simp; (try with_reducible rfl); done)); (try simp only [Act.put, List.setIfInBounds_toArray, List.set_cons_zero, List.set_cons_succ]))
  (refine wpAnyH_take (i := 4) (oi := _) (v := ?_) rfl (by kernel_rfl) (by kernel_rfl) (by kernel_rfl) (fun _ _ _ h => h) (Or.inl ⟨by rfl, ?_⟩) (by assumption) ?_; rotate_left; (focus (intro wS hSw; (try dsimp only at hSw); go_simp; (try with_reducible rfl); done)); (try simp only [Act.put, List.setIfInBounds_toArray, List.set_cons_zero, List.set_cons_succ]))
  (refine wpAnyH_take (i := 7) (oi := _) (v := ?_) rfl (by kernel_rfl) (by kernel_rfl) (by kernel_rfl) (fun _ _ _ h => h) (Or.inl ⟨by rfl, ?_⟩) (by assumption) ?_; rotate_left; (focus (intro wS hSw; (try dsimp only at hSw); go_simp; (try with_reducible rfl); done)); (try simp only [Act.put, List.setIfInBounds_toArray, List.set_cons_zero, List.set_cons_succ]))
  refine wpAnyH_ready (rs := [2, 6]) (by kernel_rfl) (by simp) ?_
  refine AllReadyH.cons (o := _) rfl (fun K hK => ?_) (AllReadyH.cons (o := _) rfl (fun K hK => ?_) AllReadyH.nil)
  · go_simp
    refine (pick_any w.heap.size R (0 + 1 + 1) 60 _ Pva.rd (by omega) (by omega) (by omega)).mono ?_
    rintro e v1 ⟨r4, rfl, a4, b4, hR4, hg4⟩
    have b4' := b4 (by omega)
    clear b4
    have Pv1 := Pva.pick hg4 (hR4.to (p' := 0 + 1 + 1 + 1) (by omega))
    clear hg4 hR4
    obtain ⟨x0, x1, xf⟩ := Pv1.box.two
    go_wp2_with fail
    refine hK.out _ _ ?_ (fun hHeld => ?_)
    focus (exact ⟨x0, x1⟩)
    clear hK K x0 x1 xf
    (try simp only [Act.put, List.setIfInBounds_toArray, List.set_cons_zero, List.set_cons_succ])
    refine wpAnyH_ready (rs := [5, 6, 8]) (by kernel_rfl) (by simp) ?_
    refine AllReadyH.cons (o := _) rfl (fun K hK => ?_) (AllReadyH.cons (o := _) rfl (fun K hK => ?_) (AllReadyH.cons (o := _) rfl (fun K hK => ?_) AllReadyH.nil))
    · go_simp
      obtain ⟨v2, hwv2⟩ : ∃ x, x = v1.alloc (.cells #[.int .i64 r4, .int .i64 r2, .int .i64 (-1), .int .i64 1001] 3) := ⟨_, rfl⟩
      have Pv2 := Pv1.alloc (.cells #[.int .i64 r4, .int .i64 r2, .int .i64 (-1), .int .i64 1001] 3)
      rw [← hwv2] at Pv2
      have L5v2 : Loc v2 v1.heap.size [.int .i64 r4, .int .i64 r2, .int .i64 (-1), .int .i64 1001] := by rw [hwv2]; exact Loc.newAt v1 [.int .i64 r4, .int .i64 r2, .int .i64 (-1), .int .i64 1001] 3 rfl
      have zLv2 := L5v2.lt
      have zRv2 : v1.heap.size ≠ R := by have := Pv1.rd.lt; omega
      have zXv2 : v1.heap.size ≠ w.heap.size := by have := Pv1.res.lt; omega
      obtain ⟨x0, x1, xf⟩ := Pv2.box.two
      rw [← hwv2]
      refine hK.out _ _ ?_ (fun hHeld => ?_)
      focus (exact ⟨x0, x1⟩)
      clear hK K hwv2
      (try simp only [Act.put, List.setIfInBounds_toArray, List.set_cons_zero, List.set_cons_succ])
      refine wpAnyH_more (S' := fun w' => w'.cell? ⟨w3.heap.size, 0, none⟩ = some (.int .i64 r2) ∧ w'.cell? ⟨w3.heap.size, 1, none⟩ = some (.int .i64 r3) ∧ Loc w' v1.heap.size [.int .i64 r4, .int .i64 r2, .int .i64 (-1), .int .i64 1001]) (fun _ h => ⟨h.1, h.2.1⟩) ⟨x0, x1, L5v2⟩ (fun hHeld => ?_)
      clear x0 x1 xf
      refine wpAnyH_ready (rs := [6, 8]) (by kernel_rfl) (by simp) ?_
      refine AllReadyH.cons (o := _) rfl (fun K hK => ?_) (AllReadyH.cons (o := _) rfl (fun K hK => ?_) AllReadyH.nil)
      · go_simp
        obtain ⟨v3, hwv3⟩ : ∃ x, x = v2.alloc (.cells #[.int .i64 0, .int .i64 0, .int .i64 0, .int .i64 1, .int .i64 2, .int .i64 3] 3) := ⟨_, rfl⟩
        have Pv3 := Pv2.alloc (.cells #[.int .i64 0, .int .i64 0, .int .i64 0, .int .i64 1, .int .i64 2, .int .i64 3] 3)
        rw [← hwv3] at Pv3
        have L5v3 := Loc.alloc L5v2 (.cells #[.int .i64 0, .int .i64 0, .int .i64 0, .int .i64 1, .int .i64 2, .int .i64 3] 3)
        rw [← hwv3] at L5v3
        have L6v3 : Loc v3 v2.heap.size [.int .i64 0, .int .i64 0, .int .i64 0, .int .i64 1, .int .i64 2, .int .i64 3] := by rw [hwv3]; exact Loc.newAt v2 [.int .i64 0, .int .i64 0, .int .i64 0, .int .i64 1, .int .i64 2, .int .i64 3] 3 rfl
        have zLv3 := L6v3.lt
        have zRv3 : v2.heap.size ≠ R := by have := Pv2.rd.lt; omega
        have zXv3 : v2.heap.size ≠ w.heap.size := by have := Pv2.res.lt; omega
        obtain ⟨x0, x1, xf⟩ := Pv3.box.two
        rw [← hwv3]
        refine hK.out _ _ ?_ (fun hHeld => ?_)
        focus (exact ⟨x0, x1, L5v3⟩)
        clear hK K hwv3
        (try simp only [Act.put, List.setIfInBounds_toArray, List.set_cons_zero, List.set_cons_succ])
        refine wpAnyH_more (S' := fun w' => w'.cell? ⟨w3.heap.size, 0, none⟩ = some (.int .i64 r2) ∧ w'.cell? ⟨w3.heap.size, 1, none⟩ = some (.int .i64 r3) ∧ Loc w' v1.heap.size [.int .i64 r4, .int .i64 r2, .int .i64 (-1), .int .i64 1001] ∧ Loc w' v2.heap.size [.int .i64 0, .int .i64 0, .int .i64 0, .int .i64 1, .int .i64 2, .int .i64 3]) (fun _ h => ⟨h.1, h.2.1, h.2.2.1⟩) ⟨x0, x1, L5v3, L6v3⟩ (fun hHeld => ?_)
        clear x0 x1 xf
        refine wpAnyH_ready (rs := [8]) (by kernel_rfl) (by simp) ?_
        refine AllReadyH.cons (o := _) rfl (fun K hK => ?_) AllReadyH.nil
        go_simp
        refine (pick_any w.heap.size R (0 + 1 + 1 + 1) 6 _ Pv3.rd (by omega) (by omega) (by omega)).mono ?_
        rintro e v4 ⟨r5, rfl, a5, b5, hR5, hg5⟩
        have b5' := b5 (by omega)
        clear b5
        have Pv4 := Pv3.pick hg5 (hR5.to (p' := 0 + 1 + 1 + 1 + 1) (by omega))
        have L5v4 := Loc.grown L5v3 hg5 (by omega)
        have L6v4 := Loc.grown L6v3 hg5 (by omega)
        clear hg5 hR5
        obtain ⟨x, hxm, hx6⟩ := lit_in [0, 0, 0, 1, 2, 3] r5 a5 (by simp; omega)
        have HX6 := Lib.hid hx6
        have hx03 : 0 ≤ x ∧ x ≤ 3 := by
          simp only [List.mem_cons, List.not_mem_nil, or_false] at hxm
          omega
        obtain ⟨hx0, hx3⟩ := hx03
        have hx4 : x < 4 := by omega
        obtain ⟨y, hym, hx5⟩ := lit_in [r4, r2, -1, 1001] x hx0 (by simp; omega)
        have HX5 := Lib.hid hx5
        have hyb : -1 ≤ y ∧ y ≤ 1001 := by
          simp only [List.mem_cons, List.not_mem_nil, or_false] at hym
          omega
        obtain ⟨hy0, hy1⟩ := hyb
        clear hxm hym hx6 hx5
        obtain ⟨x0, x1, xf⟩ := Pv4.box.two
        go_wp2_with fail
        refine hK.out _ _ ?_ (fun hHeld => ?_)
        focus (exact ⟨x0, x1, L5v4, L6v4⟩)
        clear hK K x0 x1 xf
        (try simp only [Act.put, List.setIfInBounds_toArray, List.set_cons_zero, List.set_cons_succ])
        (refine wpAnyH_take (i := 9) (oi := _) (v := ?_) rfl (by kernel_rfl) (by kernel_rfl) (by kernel_rfl) (fun _ _ _ h => h) (Or.inl ⟨by rfl, ?_⟩) (by assumption) ?_; rotate_left; (focus (intro wS hSw; (try dsimp only at hSw); go_simp; (try with_reducible rfl); done)); (try simp only [Act.put, List.setIfInBounds_toArray, List.set_cons_zero, List.set_cons_succ]))
        (refine wpAnyH_take (i := 10) (oi := _) (v := ?_) rfl (by kernel_rfl) (by kernel_rfl) (by kernel_rfl) (fun _ _ _ h => h) (Or.inl ⟨by rfl, ?_⟩) (by assumption) ?_; rotate_left; (focus (intro wS hSw; (try dsimp only at hSw); (first | (have hcx := HX6.out _ _ hSw.2.2) | (have hcx := HX6.out _ _ hSw.2.2.1) | (have hcx := HX6.out _ _ hSw.2.2.2)); clear hSw; go_simp; (try with_reducible rfl); done)); (try simp only [Act.put, List.setIfInBounds_toArray, List.set_cons_zero, List.set_cons_succ]))
        (refine wpAnyH_take (i := 11) (oi := _) (v := ?_) rfl (by kernel_rfl) (by kernel_rfl) (by kernel_rfl) (fun _ _ _ h => h) (Or.inl ⟨by rfl, ?_⟩) (by assumption) ?_; rotate_left; (focus (intro wS hSw; (try dsimp only at hSw); go_simp; (try with_reducible rfl); done)); (try simp only [Act.put, List.setIfInBounds_toArray, List.set_cons_zero, List.set_cons_succ]))
        (refine wpAnyH_take (i := 12) (oi := _) (v := ?_) rfl (by kernel_rfl) (by kernel_rfl) (by kernel_rfl) (fun _ _ _ h => h) (Or.inl ⟨by rfl, ?_⟩) (by assumption) ?_; rotate_left; (focus (intro wS hSw; (try dsimp only at hSw); (first | (have hcx := HX5.out _ _ hSw.2.2) | (have hcx := HX5.out _ _ hSw.2.2.1) | (have hcx := HX5.out _ _ hSw.2.2.2)); clear hSw; go_simp; (try with_reducible rfl); done)); (try simp only [Act.put, List.setIfInBounds_toArray, List.set_cons_zero, List.set_cons_succ]))
        refine wpAnyH_ready (rs := [13]) (by kernel_rfl) (by simp) ?_
        refine AllReadyH.cons (o := _) rfl (fun K hK => ?_) AllReadyH.nil
        obtain ⟨y0, y1, yf⟩ := Pv4.res.two
        go_simp
        obtain ⟨v5, hwv5⟩ : ∃ x, x = (v4.setCell ⟨w.heap.size, 0, none⟩ (.int .i64 r2)).setCell ⟨w.heap.size, 1, none⟩ (.int .i64 r3) := ⟨_, rfl⟩
        have Pv5 := Pv4.store
        rw [← hwv5] at Pv5
        have L5v5 := Loc.other' (p := ⟨w.heap.size, 1, none⟩) (by simpa using zXv2) (Loc.other' (p := ⟨w.heap.size, 0, none⟩) (by simpa using zXv2) L5v4 (.int .i64 r2)) (.int .i64 r3)
        rw [← hwv5] at L5v5
        have L6v5 := Loc.other' (p := ⟨w.heap.size, 1, none⟩) (by simpa using zXv3) (Loc.other' (p := ⟨w.heap.size, 0, none⟩) (by simpa using zXv3) L6v4 (.int .i64 r2)) (.int .i64 r3)
        rw [← hwv5] at L6v5
        obtain ⟨x0, x1, xf⟩ := Pv5.box.two
        rw [← hwv5]
        refine hK.out _ _ ?_ (fun hHeld => ?_)
        focus (exact ⟨x0, x1, L5v5, L6v5⟩)
        clear hK K hwv5 x0 x1 xf y0 y1 yf
        (try simp only [Act.put, List.setIfInBounds_toArray, List.set_cons_zero, List.set_cons_succ])
        (refine wpAnyH_take (i := 14) (oi := _) (v := ?_) rfl (by kernel_rfl) (by kernel_rfl) (by kernel_rfl) (fun _ _ _ h => h) (Or.inl ⟨by rfl, ?_⟩) (by assumption) ?_; rotate_left; (focus (intro wS hSw; (try dsimp only at hSw); go_simp; (try with_reducible rfl); done)); (try simp only [Act.put, List.setIfInBounds_toArray, List.set_cons_zero, List.set_cons_succ]))
        refine wpAnyH_done (by kernel_rfl) ?_ _
        refine NoPanic.normal ?_
        obtain ⟨y0, y1, yf⟩ := Pv5.res.two
        try simp only [List.getElem_toArray, List.getElem_cons_succ, List.getElem_cons_zero, Act.put, List.setIfInBounds_toArray, List.set_cons_zero, List.set_cons_succ]
        go_wp2
        refine bodyPost_ret (v := .tuple #[.agg #[.int .i64 r2, .int .i64 r3], .int .i64 y]) (by simp [results, Try.results16, go_sem, *]; done) rfl ?_
        exact ⟨⟨r2, r3⟩, y, rfl, a2, by simp only; omega, a3, by simp only; omega, by omega, by omega, Pv5.bel⟩
      · go_simp
        refine (pick_any w.heap.size R (0 + 1 + 1 + 1) 6 _ Pv2.rd (by omega) (by omega) (by omega)).mono ?_
        rintro e v6 ⟨r5, rfl, a5, b5, hR5, hg5⟩
        have b5' := b5 (by omega)
        clear b5
        have Pv6 := Pv2.pick hg5 (hR5.to (p' := 0 + 1 + 1 + 1 + 1) (by omega))
        have L5v6 := Loc.grown L5v2 hg5 (by omega)
        clear hg5 hR5
        obtain ⟨x, hxm, hx6⟩ := lit_in [0, 0, 0, 1, 2, 3] r5 a5 (by simp; omega)
        have HX6 := Lib.hid hx6
        have hx03 : 0 ≤ x ∧ x ≤ 3 := by
          simp only [List.mem_cons, List.not_mem_nil, or_false] at hxm
          omega
        obtain ⟨hx0, hx3⟩ := hx03
        have hx4 : x < 4 := by omega
        obtain ⟨y, hym, hx5⟩ := lit_in [r4, r2, -1, 1001] x hx0 (by simp; omega)
        have HX5 := Lib.hid hx5
        have hyb : -1 ≤ y ∧ y ≤ 1001 := by
          simp only [List.mem_cons, List.not_mem_nil, or_false] at hym
          omega
        obtain ⟨hy0, hy1⟩ := hyb
        clear hxm hym hx6 hx5
        obtain ⟨x0, x1, xf⟩ := Pv6.box.two
        go_wp2_with fail
        refine hK.out _ _ ?_ (fun hHeld => ?_)
        focus (exact ⟨x0, x1, L5v6⟩)
        clear hK K x0 x1 xf
        (try simp only [Act.put, List.setIfInBounds_toArray, List.set_cons_zero, List.set_cons_succ])
        refine wpAnyH_ready (rs := [6, 13]) (by kernel_rfl) (by simp) ?_
        refine AllReadyH.cons (o := _) rfl (fun K hK => ?_) (AllReadyH.cons (o := _) rfl (fun K hK => ?_) AllReadyH.nil)
        · go_simp
          obtain ⟨v7, hwv7⟩ : ∃ x, x = v6.alloc (.cells #[.int .i64 0, .int .i64 0, .int .i64 0, .int .i64 1, .int .i64 2, .int .i64 3] 3) := ⟨_, rfl⟩
          have Pv7 := Pv6.alloc (.cells #[.int .i64 0, .int .i64 0, .int .i64 0, .int .i64 1, .int .i64 2, .int .i64 3] 3)
          rw [← hwv7] at Pv7
          have L5v7 := Loc.alloc L5v6 (.cells #[.int .i64 0, .int .i64 0, .int .i64 0, .int .i64 1, .int .i64 2, .int .i64 3] 3)
          rw [← hwv7] at L5v7
          have L6v7 : Loc v7 v6.heap.size [.int .i64 0, .int .i64 0, .int .i64 0, .int .i64 1, .int .i64 2, .int .i64 3] := by rw [hwv7]; exact Loc.newAt v6 [.int .i64 0, .int .i64 0, .int .i64 0, .int .i64 1, .int .i64 2, .int .i64 3] 3 rfl
          have zLv7 := L6v7.lt
          have zRv7 : v6.heap.size ≠ R := by have := Pv6.rd.lt; omega
          have zXv7 : v6.heap.size ≠ w.heap.size := by have := Pv6.res.lt; omega
          obtain ⟨x0, x1, xf⟩ := Pv7.box.two
          rw [← hwv7]
          refine hK.out _ _ ?_ (fun hHeld => ?_)
          focus (exact ⟨x0, x1, L5v7⟩)
          clear hK K hwv7
          (try simp only [Act.put, List.setIfInBounds_toArray, List.set_cons_zero, List.set_cons_succ])
          refine wpAnyH_more (S' := fun w' => w'.cell? ⟨w3.heap.size, 0, none⟩ = some (.int .i64 r2) ∧ w'.cell? ⟨w3.heap.size, 1, none⟩ = some (.int .i64 r3) ∧ Loc w' v1.heap.size [.int .i64 r4, .int .i64 r2, .int .i64 (-1), .int .i64 1001] ∧ Loc w' v6.heap.size [.int .i64 0, .int .i64 0, .int .i64 0, .int .i64 1, .int .i64 2, .int .i64 3]) (fun _ h => ⟨h.1, h.2.1, h.2.2.1⟩) ⟨x0, x1, L5v7, L6v7⟩ (fun hHeld => ?_)
          clear x0 x1 xf
          (refine wpAnyH_take (i := 9) (oi := _) (v := ?_) rfl (by kernel_rfl) (by kernel_rfl) (by kernel_rfl) (fun _ _ _ h => h) (Or.inl ⟨by rfl, ?_⟩) (by assumption) ?_; rotate_left; (focus (intro wS hSw; (try dsimp only at hSw); go_simp; (try with_reducible rfl); done)); (try simp only [Act.put, List.setIfInBounds_toArray, List.set_cons_zero, List.set_cons_succ]))
          (refine wpAnyH_take (i := 10) (oi := _) (v := ?_) rfl (by kernel_rfl) (by kernel_rfl) (by kernel_rfl) (fun _ _ _ h => h) (Or.inl ⟨by rfl, ?_⟩) (by assumption) ?_; rotate_left; (focus (intro wS hSw; (try dsimp only at hSw); (first | (have hcx := HX6.out _ _ hSw.2.2) | (have hcx := HX6.out _ _ hSw.2.2.1) | (have hcx := HX6.out _ _ hSw.2.2.2)); clear hSw; go_simp; (try with_reducible rfl); done)); (try simp only [Act.put, List.setIfInBounds_toArray, List.set_cons_zero, List.set_cons_succ]))
          (refine wpAnyH_take (i := 11) (oi := _) (v := ?_) rfl (by kernel_rfl) (by kernel_rfl) (by kernel_rfl) (fun _ _ _ h => h) (Or.inl ⟨by rfl, ?_⟩) (by assumption) ?_; rotate_left; (focus (intro wS hSw; (try dsimp only at hSw); go_simp; (try with_reducible rfl); done)); (try simp only [Act.put, List.setIfInBounds_toArray, List.set_cons_zero, List.set_cons_succ]))
          (refine wpAnyH_take (i := 12) (oi := _) (v := ?_) rfl (by kernel_rfl) (by kernel_rfl) (by kernel_rfl) (fun _ _ _ h => h) (Or.inl ⟨by rfl, ?_⟩) (by assumption) ?_; rotate_left; (focus (intro wS hSw; (try dsimp only at hSw); (first | (have hcx := HX5.out _ _ hSw.2.2) | (have hcx := HX5.out _ _ hSw.2.2.1) | (have hcx := HX5.out _ _ hSw.2.2.2)); clear hSw; go_simp; (try with_reducible rfl); done)); (try simp only [Act.put, List.setIfInBounds_toArray, List.set_cons_zero, List.set_cons_succ]))
          refine wpAnyH_ready (rs := [13]) (by kernel_rfl) (by simp) ?_
          refine AllReadyH.cons (o := _) rfl (fun K hK => ?_) AllReadyH.nil
          obtain ⟨y0, y1, yf⟩ := Pv7.res.two
          go_simp
          obtain ⟨v8, hwv8⟩ : ∃ x, x = (v7.setCell ⟨w.heap.size, 0, none⟩ (.int .i64 r2)).setCell ⟨w.heap.size, 1, none⟩ (.int .i64 r3) := ⟨_, rfl⟩
          have Pv8 := Pv7.store
          rw [← hwv8] at Pv8
          have L5v8 := Loc.other' (p := ⟨w.heap.size, 1, none⟩) (by simpa using zXv2) (Loc.other' (p := ⟨w.heap.size, 0, none⟩) (by simpa using zXv2) L5v7 (.int .i64 r2)) (.int .i64 r3)
          rw [← hwv8] at L5v8
          have L6v8 := Loc.other' (p := ⟨w.heap.size, 1, none⟩) (by simpa using zXv7) (Loc.other' (p := ⟨w.heap.size, 0, none⟩) (by simpa using zXv7) L6v7 (.int .i64 r2)) (.int .i64 r3)
          rw [← hwv8] at L6v8
          obtain ⟨x0, x1, xf⟩ := Pv8.box.two
          rw [← hwv8]
          refine hK.out _ _ ?_ (fun hHeld => ?_)
          focus (exact ⟨x0, x1, L5v8, L6v8⟩)
          clear hK K hwv8 x0 x1 xf y0 y1 yf
          (try simp only [Act.put, List.setIfInBounds_toArray, List.set_cons_zero, List.set_cons_succ])
          (refine wpAnyH_take (i := 14) (oi := _) (v := ?_) rfl (by kernel_rfl) (by kernel_rfl) (by kernel_rfl) (fun _ _ _ h => h) (Or.inl ⟨by rfl, ?_⟩) (by assumption) ?_; rotate_left; (focus (intro wS hSw; (try dsimp only at hSw); go_simp; (try with_reducible rfl); done)); (try simp only [Act.put, List.setIfInBounds_toArray, List.set_cons_zero, List.set_cons_succ]))
          refine wpAnyH_done (by kernel_rfl) ?_ _
          refine NoPanic.normal ?_
          obtain ⟨y0, y1, yf⟩ := Pv8.res.two
          try simp only [List.getElem_toArray, List.getElem_cons_succ, List.getElem_cons_zero, Act.put, List.setIfInBounds_toArray, List.set_cons_zero, List.set_cons_succ]
          go_wp2
          refine bodyPost_ret (v := .tuple #[.agg #[.int .i64 r2, .int .i64 r3], .int .i64 y]) (by simp [results, Try.results16, go_sem, *]; done) rfl ?_
          exact ⟨⟨r2, r3⟩, y, rfl, a2, by simp only; omega, a3, by simp only; omega, by omega, by omega, Pv8.bel⟩
        · obtain ⟨y0, y1, yf⟩ := Pv6.res.two
          go_simp
          obtain ⟨v9, hwv9⟩ : ∃ x, x = (v6.setCell ⟨w.heap.size, 0, none⟩ (.int .i64 r2)).setCell ⟨w.heap.size, 1, none⟩ (.int .i64 r3) := ⟨_, rfl⟩
          have Pv9 := Pv6.store
          rw [← hwv9] at Pv9
          have L5v9 := Loc.other' (p := ⟨w.heap.size, 1, none⟩) (by simpa using zXv2) (Loc.other' (p := ⟨w.heap.size, 0, none⟩) (by simpa using zXv2) L5v6 (.int .i64 r2)) (.int .i64 r3)
          rw [← hwv9] at L5v9
          obtain ⟨x0, x1, xf⟩ := Pv9.box.two
          rw [← hwv9]
          refine hK.out _ _ ?_ (fun hHeld => ?_)
          focus (exact ⟨x0, x1, L5v9⟩)
          clear hK K hwv9 x0 x1 xf y0 y1 yf
          (try simp only [Act.put, List.setIfInBounds_toArray, List.set_cons_zero, List.set_cons_succ])
          refine wpAnyH_ready (rs := [6]) (by kernel_rfl) (by simp) ?_
          refine AllReadyH.cons (o := _) rfl (fun K hK => ?_) AllReadyH.nil
          go_simp
          obtain ⟨v10, hwv10⟩ : ∃ x, x = v9.alloc (.cells #[.int .i64 0, .int .i64 0, .int .i64 0, .int .i64 1, .int .i64 2, .int .i64 3] 3) := ⟨_, rfl⟩
          have Pv10 := Pv9.alloc (.cells #[.int .i64 0, .int .i64 0, .int .i64 0, .int .i64 1, .int .i64 2, .int .i64 3] 3)
          rw [← hwv10] at Pv10
          have L5v10 := Loc.alloc L5v9 (.cells #[.int .i64 0, .int .i64 0, .int .i64 0, .int .i64 1, .int .i64 2, .int .i64 3] 3)
          rw [← hwv10] at L5v10
          have L6v10 : Loc v10 v9.heap.size [.int .i64 0, .int .i64 0, .int .i64 0, .int .i64 1, .int .i64 2, .int .i64 3] := by rw [hwv10]; exact Loc.newAt v9 [.int .i64 0, .int .i64 0, .int .i64 0, .int .i64 1, .int .i64 2, .int .i64 3] 3 rfl
          have zLv10 := L6v10.lt
          have zRv10 : v9.heap.size ≠ R := by have := Pv9.rd.lt; omega
          have zXv10 : v9.heap.size ≠ w.heap.size := by have := Pv9.res.lt; omega
          obtain ⟨x0, x1, xf⟩ := Pv10.box.two
          rw [← hwv10]
          refine hK.out _ _ ?_ (fun hHeld => ?_)
          focus (exact ⟨x0, x1, L5v10⟩)
          clear hK K hwv10
          (try simp only [Act.put, List.setIfInBounds_toArray, List.set_cons_zero, List.set_cons_succ])
          refine wpAnyH_more (S' := fun w' => w'.cell? ⟨w3.heap.size, 0, none⟩ = some (.int .i64 r2) ∧ w'.cell? ⟨w3.heap.size, 1, none⟩ = some (.int .i64 r3) ∧ Loc w' v1.heap.size [.int .i64 r4, .int .i64 r2, .int .i64 (-1), .int .i64 1001] ∧ Loc w' v9.heap.size [.int .i64 0, .int .i64 0, .int .i64 0, .int .i64 1, .int .i64 2, .int .i64 3]) (fun _ h => ⟨h.1, h.2.1, h.2.2.1⟩) ⟨x0, x1, L5v10, L6v10⟩ (fun hHeld => ?_)
          clear x0 x1 xf
          (refine wpAnyH_take (i := 9) (oi := _) (v := ?_) rfl (by kernel_rfl) (by kernel_rfl) (by kernel_rfl) (fun _ _ _ h => h) (Or.inl ⟨by rfl, ?_⟩) (by assumption) ?_; rotate_left; (focus (intro wS hSw; (try dsimp only at hSw); go_simp; (try with_reducible rfl); done)); (try simp only [Act.put, List.setIfInBounds_toArray, List.set_cons_zero, List.set_cons_succ]))
          (refine wpAnyH_take (i := 10) (oi := _) (v := ?_) rfl (by kernel_rfl) (by kernel_rfl) (by kernel_rfl) (fun _ _ _ h => h) (Or.inl ⟨by rfl, ?_⟩) (by assumption) ?_; rotate_left; (focus (intro wS hSw; (try dsimp only at hSw); (first | (have hcx := HX6.out _ _ hSw.2.2) | (have hcx := HX6.out _ _ hSw.2.2.1) | (have hcx := HX6.out _ _ hSw.2.2.2)); clear hSw; go_simp; (try with_reducible rfl); done)); (try simp only [Act.put, List.setIfInBounds_toArray, List.set_cons_zero, List.set_cons_succ]))
          (refine wpAnyH_take (i := 11) (oi := _) (v := ?_) rfl (by kernel_rfl) (by kernel_rfl) (by kernel_rfl) (fun _ _ _ h => h) (Or.inl ⟨by rfl, ?_⟩) (by assumption) ?_; rotate_left; (focus (intro wS hSw; (try dsimp only at hSw); go_simp; (try with_reducible rfl); done)); (try simp only [Act.put, List.setIfInBounds_toArray, List.set_cons_zero, List.set_cons_succ]))
          (refine wpAnyH_take (i := 12) (oi := _) (v := ?_) rfl (by kernel_rfl) (by kernel_rfl) (by kernel_rfl) (fun _ _ _ h => h) (Or.inl ⟨by rfl, ?_⟩) (by assumption) ?_; rotate_left; (focus (intro wS hSw; (try dsimp only at hSw); (first | (have hcx := HX5.out _ _ hSw.2.2) | (have hcx := HX5.out _ _ hSw.2.2.1) | (have hcx := HX5.out _ _ hSw.2.2.2)); clear hSw; go_simp; (try with_reducible rfl); done)); (try simp only [Act.put, List.setIfInBounds_toArray, List.set_cons_zero, List.set_cons_succ]))
          (refine wpAnyH_take (i := 14) (oi := _) (v := ?_) rfl (by kernel_rfl) (by kernel_rfl) (by kernel_rfl) (fun _ _ _ h => h) (Or.inl ⟨by rfl, ?_⟩) (by assumption) ?_; rotate_left; (focus (intro wS hSw; (try dsimp only at hSw); go_simp; (try with_reducible rfl); done)); (try simp only [Act.put, List.setIfInBounds_toArray, List.set_cons_zero, List.set_cons_succ]))
          refine wpAnyH_done (by kernel_rfl) ?_ _
          refine NoPanic.normal ?_
          obtain ⟨y0, y1, yf⟩ := Pv10.res.two
          try simp only [List.getElem_toArray, List.getElem_cons_succ, List.getElem_cons_zero, Act.put, List.setIfInBounds_toArray, List.set_cons_zero, List.set_cons_succ]
          go_wp2
          refine bodyPost_ret (v := .tuple #[.agg #[.int .i64 r2, .int .i64 r3], .int .i64 y]) (by simp [results, Try.results16, go_sem, *]; done) rfl ?_
          exact ⟨⟨r2, r3⟩, y, rfl, a2, by simp only; omega, a3, by simp only; omega, by omega, by omega, Pv10.bel⟩
    · go_simp
      obtain ⟨v11, hwv11⟩ : ∃ x, x = v1.alloc (.cells #[.int .i64 0, .int .i64 0, .int .i64 0, .int .i64 1, .int .i64 2, .int .i64 3] 3) := ⟨_, rfl⟩
      have Pv11 := Pv1.alloc (.cells #[.int .i64 0, .int .i64 0, .int .i64 0, .int .i64 1, .int .i64 2, .int .i64 3] 3)
      rw [← hwv11] at Pv11
      have L6v11 : Loc v11 v1.heap.size [.int .i64 0, .int .i64 0, .int .i64 0, .int .i64 1, .int .i64 2, .int .i64 3] := by rw [hwv11]; exact Loc.newAt v1 [.int .i64 0, .int .i64 0, .int .i64 0, .int .i64 1, .int .i64 2, .int .i64 3] 3 rfl
      have zLv11 := L6v11.lt
      have zRv11 : v1.heap.size ≠ R := by have := Pv1.rd.lt; omega
      have zXv11 : v1.heap.size ≠ w.heap.size := by have := Pv1.res.lt; omega
      obtain ⟨x0, x1, xf⟩ := Pv11.box.two
      rw [← hwv11]
      refine hK.out _ _ ?_ (fun hHeld => ?_)
      focus (exact ⟨x0, x1⟩)
      clear hK K hwv11
      (try simp only [Act.put, List.setIfInBounds_toArray, List.set_cons_zero, List.set_cons_succ])
      refine wpAnyH_more (S' := fun w' => w'.cell? ⟨w3.heap.size, 0, none⟩ = some (.int .i64 r2) ∧ w'.cell? ⟨w3.heap.size, 1, none⟩ = some (.int .i64 r3) ∧ Loc w' v1.heap.size [.int .i64 0, .int .i64 0, .int .i64 0, .int .i64 1, .int .i64 2, .int .i64 3]) (fun _ h => ⟨h.1, h.2.1⟩) ⟨x0, x1, L6v11⟩ (fun hHeld => ?_)
      clear x0 x1 xf
      refine wpAnyH_ready (rs := [5, 8]) (by kernel_rfl) (by simp) ?_
      refine AllReadyH.cons (o := _) rfl (fun K hK => ?_) (AllReadyH.cons (o := _) rfl (fun K hK => ?_) AllReadyH.nil)
      · go_simp
        obtain ⟨v12, hwv12⟩ : ∃ x, x = v11.alloc (.cells #[.int .i64 r4, .int .i64 r2, .int .i64 (-1), .int .i64 1001] 3) := ⟨_, rfl⟩
        have Pv12 := Pv11.alloc (.cells #[.int .i64 r4, .int .i64 r2, .int .i64 (-1), .int .i64 1001] 3)
        rw [← hwv12] at Pv12
        have L6v12 := Loc.alloc L6v11 (.cells #[.int .i64 r4, .int .i64 r2, .int .i64 (-1), .int .i64 1001] 3)
        rw [← hwv12] at L6v12
        have L5v12 : Loc v12 v11.heap.size [.int .i64 r4, .int .i64 r2, .int .i64 (-1), .int .i64 1001] := by rw [hwv12]; exact Loc.newAt v11 [.int .i64 r4, .int .i64 r2, .int .i64 (-1), .int .i64 1001] 3 rfl
        have zLv12 := L5v12.lt
        have zRv12 : v11.heap.size ≠ R := by have := Pv11.rd.lt; omega
        have zXv12 : v11.heap.size ≠ w.heap.size := by have := Pv11.res.lt; omega
        obtain ⟨x0, x1, xf⟩ := Pv12.box.two
        rw [← hwv12]
        refine hK.out _ _ ?_ (fun hHeld => ?_)
        focus (exact ⟨x0, x1, L6v12⟩)
        clear hK K hwv12
        (try simp only [Act.put, List.setIfInBounds_toArray, List.set_cons_zero, List.set_cons_succ])
        refine wpAnyH_more (S' := fun w' => w'.cell? ⟨w3.heap.size, 0, none⟩ = some (.int .i64 r2) ∧ w'.cell? ⟨w3.heap.size, 1, none⟩ = some (.int .i64 r3) ∧ Loc w' v1.heap.size [.int .i64 0, .int .i64 0, .int .i64 0, .int .i64 1, .int .i64 2, .int .i64 3] ∧ Loc w' v11.heap.size [.int .i64 r4, .int .i64 r2, .int .i64 (-1), .int .i64 1001]) (fun _ h => ⟨h.1, h.2.1, h.2.2.1⟩) ⟨x0, x1, L6v12, L5v12⟩ (fun hHeld => ?_)
        clear x0 x1 xf
        refine wpAnyH_ready (rs := [8]) (by kernel_rfl) (by simp) ?_
        refine AllReadyH.cons (o := _) rfl (fun K hK => ?_) AllReadyH.nil
        go_simp
        refine (pick_any w.heap.size R (0 + 1 + 1 + 1) 6 _ Pv12.rd (by omega) (by omega) (by omega)).mono ?_
        rintro e v13 ⟨r5, rfl, a5, b5, hR5, hg5⟩
        have b5' := b5 (by omega)
        clear b5
        have Pv13 := Pv12.pick hg5 (hR5.to (p' := 0 + 1 + 1 + 1 + 1) (by omega))
        have L6v13 := Loc.grown L6v12 hg5 (by omega)
        have L5v13 := Loc.grown L5v12 hg5 (by omega)
        clear hg5 hR5
        obtain ⟨x, hxm, hx6⟩ := lit_in [0, 0, 0, 1, 2, 3] r5 a5 (by simp; omega)
        have HX6 := Lib.hid hx6
        have hx03 : 0 ≤ x ∧ x ≤ 3 := by
          simp only [List.mem_cons, List.not_mem_nil, or_false] at hxm
          omega
        obtain ⟨hx0, hx3⟩ := hx03
        have hx4 : x < 4 := by omega
        obtain ⟨y, hym, hx5⟩ := lit_in [r4, r2, -1, 1001] x hx0 (by simp; omega)
        have HX5 := Lib.hid hx5
        have hyb : -1 ≤ y ∧ y ≤ 1001 := by
          simp only [List.mem_cons, List.not_mem_nil, or_false] at hym
          omega
        obtain ⟨hy0, hy1⟩ := hyb
        clear hxm hym hx6 hx5
        obtain ⟨x0, x1, xf⟩ := Pv13.box.two
        go_wp2_with fail
        refine hK.out _ _ ?_ (fun hHeld => ?_)
        focus (exact ⟨x0, x1, L6v13, L5v13⟩)
        clear hK K x0 x1 xf
        (try simp only [Act.put, List.setIfInBounds_toArray, List.set_cons_zero, List.set_cons_succ])
        (refine wpAnyH_take (i := 9) (oi := _) (v := ?_) rfl (by kernel_rfl) (by kernel_rfl) (by kernel_rfl) (fun _ _ _ h => h) (Or.inl ⟨by rfl, ?_⟩) (by assumption) ?_; rotate_left; (focus (intro wS hSw; (try dsimp only at hSw); go_simp; (try with_reducible rfl); done)); (try simp only [Act.put, List.setIfInBounds_toArray, List.set_cons_zero, List.set_cons_succ]))
        (refine wpAnyH_take (i := 10) (oi := _) (v := ?_) rfl (by kernel_rfl) (by kernel_rfl) (by kernel_rfl) (fun _ _ _ h => h) (Or.inl ⟨by rfl, ?_⟩) (by assumption) ?_; rotate_left; (focus (intro wS hSw; (try dsimp only at hSw); (first | (have hcx := HX6.out _ _ hSw.2.2) | (have hcx := HX6.out _ _ hSw.2.2.1) | (have hcx := HX6.out _ _ hSw.2.2.2)); clear hSw; go_simp; (try with_reducible rfl); done)); (try simp only [Act.put, List.setIfInBounds_toArray, List.set_cons_zero, List.set_cons_succ]))
        (refine wpAnyH_take (i := 11) (oi := _) (v := ?_) rfl (by kernel_rfl) (by kernel_rfl) (by kernel_rfl) (fun _ _ _ h => h) (Or.inl ⟨by rfl, ?_⟩) (by assumption) ?_; rotate_left; (focus (intro wS hSw; (try dsimp only at hSw); go_simp; (try with_reducible rfl); done)); (try simp only [Act.put, List.setIfInBounds_toArray, List.set_cons_zero, List.set_cons_succ]))
        (refine wpAnyH_take (i := 12) (oi := _) (v := ?_) rfl (by kernel_rfl) (by kernel_rfl) (by kernel_rfl) (fun _ _ _ h => h) (Or.inl ⟨by rfl, ?_⟩) (by assumption) ?_; rotate_left; (focus (intro wS hSw; (try dsimp only at hSw); (first | (have hcx := HX5.out _ _ hSw.2.2) | (have hcx := HX5.out _ _ hSw.2.2.1) | (have hcx := HX5.out _ _ hSw.2.2.2)); clear hSw; go_simp; (try with_reducible rfl); done)); (try simp only [Act.put, List.setIfInBounds_toArray, List.set_cons_zero, List.set_cons_succ]))
        refine wpAnyH_ready (rs := [13]) (by kernel_rfl) (by simp) ?_
        refine AllReadyH.cons (o := _) rfl (fun K hK => ?_) AllReadyH.nil
        obtain ⟨y0, y1, yf⟩ := Pv13.res.two
        go_simp
        obtain ⟨v14, hwv14⟩ : ∃ x, x = (v13.setCell ⟨w.heap.size, 0, none⟩ (.int .i64 r2)).setCell ⟨w.heap.size, 1, none⟩ (.int .i64 r3) := ⟨_, rfl⟩
        have Pv14 := Pv13.store
        rw [← hwv14] at Pv14
        have L6v14 := Loc.other' (p := ⟨w.heap.size, 1, none⟩) (by simpa using zXv11) (Loc.other' (p := ⟨w.heap.size, 0, none⟩) (by simpa using zXv11) L6v13 (.int .i64 r2)) (.int .i64 r3)
        rw [← hwv14] at L6v14
        have L5v14 := Loc.other' (p := ⟨w.heap.size, 1, none⟩) (by simpa using zXv12) (Loc.other' (p := ⟨w.heap.size, 0, none⟩) (by simpa using zXv12) L5v13 (.int .i64 r2)) (.int .i64 r3)
        rw [← hwv14] at L5v14
        obtain ⟨x0, x1, xf⟩ := Pv14.box.two
        rw [← hwv14]
        refine hK.out _ _ ?_ (fun hHeld => ?_)
        focus (exact ⟨x0, x1, L6v14, L5v14⟩)
        clear hK K hwv14 x0 x1 xf y0 y1 yf
        (try simp only [Act.put, List.setIfInBounds_toArray, List.set_cons_zero, List.set_cons_succ])
        (refine wpAnyH_take (i := 14) (oi := _) (v := ?_) rfl (by kernel_rfl) (by kernel_rfl) (by kernel_rfl) (fun _ _ _ h => h) (Or.inl ⟨by rfl, ?_⟩) (by assumption) ?_; rotate_left; (focus (intro wS hSw; (try dsimp only at hSw); go_simp; (try with_reducible rfl); done)); (try simp only [Act.put, List.setIfInBounds_toArray, List.set_cons_zero, List.set_cons_succ]))
        refine wpAnyH_done (by kernel_rfl) ?_ _
        refine NoPanic.normal ?_
        obtain ⟨y0, y1, yf⟩ := Pv14.res.two
        try simp only [List.getElem_toArray, List.getElem_cons_succ, List.getElem_cons_zero, Act.put, List.setIfInBounds_toArray, List.set_cons_zero, List.set_cons_succ]
        go_wp2
        refine bodyPost_ret (v := .tuple #[.agg #[.int .i64 r2, .int .i64 r3], .int .i64 y]) (by simp [results, Try.results16, go_sem, *]; done) rfl ?_
        exact ⟨⟨r2, r3⟩, y, rfl, a2, by simp only; omega, a3, by simp only; omega, by omega, by omega, Pv14.bel⟩
      · go_simp
        refine (pick_any w.heap.size R (0 + 1 + 1 + 1) 6 _ Pv11.rd (by omega) (by omega) (by omega)).mono ?_
        rintro e v15 ⟨r5, rfl, a5, b5, hR5, hg5⟩
        have b5' := b5 (by omega)
        clear b5
        have Pv15 := Pv11.pick hg5 (hR5.to (p' := 0 + 1 + 1 + 1 + 1) (by omega))
        have L6v15 := Loc.grown L6v11 hg5 (by omega)
        clear hg5 hR5
        obtain ⟨x, hxm, hx6⟩ := lit_in [0, 0, 0, 1, 2, 3] r5 a5 (by simp; omega)
        have HX6 := Lib.hid hx6
        have hx03 : 0 ≤ x ∧ x ≤ 3 := by
          simp only [List.mem_cons, List.not_mem_nil, or_false] at hxm
          omega
        obtain ⟨hx0, hx3⟩ := hx03
        have hx4 : x < 4 := by omega
        obtain ⟨y, hym, hx5⟩ := lit_in [r4, r2, -1, 1001] x hx0 (by simp; omega)
        have HX5 := Lib.hid hx5
        have hyb : -1 ≤ y ∧ y ≤ 1001 := by
          simp only [List.mem_cons, List.not_mem_nil, or_false] at hym
          omega
        obtain ⟨hy0, hy1⟩ := hyb
        clear hxm hym hx6 hx5
        obtain ⟨x0, x1, xf⟩ := Pv15.box.two
        go_wp2_with fail
        refine hK.out _ _ ?_ (fun hHeld => ?_)
        focus (exact ⟨x0, x1, L6v15⟩)
        clear hK K x0 x1 xf
        (try simp only [Act.put, List.setIfInBounds_toArray, List.set_cons_zero, List.set_cons_succ])
        (refine wpAnyH_take (i := 9) (oi := _) (v := ?_) rfl (by kernel_rfl) (by kernel_rfl) (by kernel_rfl) (fun _ _ _ h => h) (Or.inl ⟨by rfl, ?_⟩) (by assumption) ?_; rotate_left; (focus (intro wS hSw; (try dsimp only at hSw); go_simp; (try with_reducible rfl); done)); (try simp only [Act.put, List.setIfInBounds_toArray, List.set_cons_zero, List.set_cons_succ]))
        (refine wpAnyH_take (i := 10) (oi := _) (v := ?_) rfl (by kernel_rfl) (by kernel_rfl) (by kernel_rfl) (fun _ _ _ h => h) (Or.inl ⟨by rfl, ?_⟩) (by assumption) ?_; rotate_left; (focus (intro wS hSw; (try dsimp only at hSw); (first | (have hcx := HX6.out _ _ hSw.2.2) | (have hcx := HX6.out _ _ hSw.2.2.1) | (have hcx := HX6.out _ _ hSw.2.2.2)); clear hSw; go_simp; (try with_reducible rfl); done)); (try simp only [Act.put, List.setIfInBounds_toArray, List.set_cons_zero, List.set_cons_succ]))
        refine wpAnyH_ready (rs := [5, 13]) (by kernel_rfl) (by simp) ?_
        refine AllReadyH.cons (o := _) rfl (fun K hK => ?_) (AllReadyH.cons (o := _) rfl (fun K hK => ?_) AllReadyH.nil)
        · go_simp
          obtain ⟨v16, hwv16⟩ : ∃ x, x = v15.alloc (.cells #[.int .i64 r4, .int .i64 r2, .int .i64 (-1), .int .i64 1001] 3) := ⟨_, rfl⟩
          have Pv16 := Pv15.alloc (.cells #[.int .i64 r4, .int .i64 r2, .int .i64 (-1), .int .i64 1001] 3)
          rw [← hwv16] at Pv16
          have L6v16 := Loc.alloc L6v15 (.cells #[.int .i64 r4, .int .i64 r2, .int .i64 (-1), .int .i64 1001] 3)
          rw [← hwv16] at L6v16
          have L5v16 : Loc v16 v15.heap.size [.int .i64 r4, .int .i64 r2, .int .i64 (-1), .int .i64 1001] := by rw [hwv16]; exact Loc.newAt v15 [.int .i64 r4, .int .i64 r2, .int .i64 (-1), .int .i64 1001] 3 rfl
          have zLv16 := L5v16.lt
          have zRv16 : v15.heap.size ≠ R := by have := Pv15.rd.lt; omega
          have zXv16 : v15.heap.size ≠ w.heap.size := by have := Pv15.res.lt; omega
          obtain ⟨x0, x1, xf⟩ := Pv16.box.two
          rw [← hwv16]
          refine hK.out _ _ ?_ (fun hHeld => ?_)
          focus (exact ⟨x0, x1, L6v16⟩)
          clear hK K hwv16
          (try simp only [Act.put, List.setIfInBounds_toArray, List.set_cons_zero, List.set_cons_succ])
          refine wpAnyH_more (S' := fun w' => w'.cell? ⟨w3.heap.size, 0, none⟩ = some (.int .i64 r2) ∧ w'.cell? ⟨w3.heap.size, 1, none⟩ = some (.int .i64 r3) ∧ Loc w' v1.heap.size [.int .i64 0, .int .i64 0, .int .i64 0, .int .i64 1, .int .i64 2, .int .i64 3] ∧ Loc w' v15.heap.size [.int .i64 r4, .int .i64 r2, .int .i64 (-1), .int .i64 1001]) (fun _ h => ⟨h.1, h.2.1, h.2.2.1⟩) ⟨x0, x1, L6v16, L5v16⟩ (fun hHeld => ?_)
          clear x0 x1 xf
          (refine wpAnyH_take (i := 11) (oi := _) (v := ?_) rfl (by kernel_rfl) (by kernel_rfl) (by kernel_rfl) (fun _ _ _ h => h) (Or.inl ⟨by rfl, ?_⟩) (by assumption) ?_; rotate_left; (focus (intro wS hSw; (try dsimp only at hSw); go_simp; (try with_reducible rfl); done)); (try simp only [Act.put, List.setIfInBounds_toArray, List.set_cons_zero, List.set_cons_succ]))
          (refine wpAnyH_take (i := 12) (oi := _) (v := ?_) rfl (by kernel_rfl) (by kernel_rfl) (by kernel_rfl) (fun _ _ _ h => h) (Or.inl ⟨by rfl, ?_⟩) (by assumption) ?_; rotate_left; (focus (intro wS hSw; (try dsimp only at hSw); (first | (have hcx := HX5.out _ _ hSw.2.2) | (have hcx := HX5.out _ _ hSw.2.2.1) | (have hcx := HX5.out _ _ hSw.2.2.2)); clear hSw; go_simp; (try with_reducible rfl); done)); (try simp only [Act.put, List.setIfInBounds_toArray, List.set_cons_zero, List.set_cons_succ]))
          refine wpAnyH_ready (rs := [13]) (by kernel_rfl) (by simp) ?_
          refine AllReadyH.cons (o := _) rfl (fun K hK => ?_) AllReadyH.nil
          obtain ⟨y0, y1, yf⟩ := Pv16.res.two
          go_simp
          obtain ⟨v17, hwv17⟩ : ∃ x, x = (v16.setCell ⟨w.heap.size, 0, none⟩ (.int .i64 r2)).setCell ⟨w.heap.size, 1, none⟩ (.int .i64 r3) := ⟨_, rfl⟩
          have Pv17 := Pv16.store
          rw [← hwv17] at Pv17
          have L6v17 := Loc.other' (p := ⟨w.heap.size, 1, none⟩) (by simpa using zXv11) (Loc.other' (p := ⟨w.heap.size, 0, none⟩) (by simpa using zXv11) L6v16 (.int .i64 r2)) (.int .i64 r3)
          rw [← hwv17] at L6v17
          have L5v17 := Loc.other' (p := ⟨w.heap.size, 1, none⟩) (by simpa using zXv16) (Loc.other' (p := ⟨w.heap.size, 0, none⟩) (by simpa using zXv16) L5v16 (.int .i64 r2)) (.int .i64 r3)
          rw [← hwv17] at L5v17
          obtain ⟨x0, x1, xf⟩ := Pv17.box.two
          rw [← hwv17]
          refine hK.out _ _ ?_ (fun hHeld => ?_)
          focus (exact ⟨x0, x1, L6v17, L5v17⟩)
          clear hK K hwv17 x0 x1 xf y0 y1 yf
          (try simp only [Act.put, List.setIfInBounds_toArray, List.set_cons_zero, List.set_cons_succ])
          (refine wpAnyH_take (i := 14) (oi := _) (v := ?_) rfl (by kernel_rfl) (by kernel_rfl) (by kernel_rfl) (fun _ _ _ h => h) (Or.inl ⟨by rfl, ?_⟩) (by assumption) ?_; rotate_left; (focus (intro wS hSw; (try dsimp only at hSw); go_simp; (try with_reducible rfl); done)); (try simp only [Act.put, List.setIfInBounds_toArray, List.set_cons_zero, List.set_cons_succ]))
          refine wpAnyH_done (by kernel_rfl) ?_ _
          refine NoPanic.normal ?_
          obtain ⟨y0, y1, yf⟩ := Pv17.res.two
          try simp only [List.getElem_toArray, List.getElem_cons_succ, List.getElem_cons_zero, Act.put, List.setIfInBounds_toArray, List.set_cons_zero, List.set_cons_succ]
          go_wp2
          refine bodyPost_ret (v := .tuple #[.agg #[.int .i64 r2, .int .i64 r3], .int .i64 y]) (by simp [results, Try.results16, go_sem, *]; done) rfl ?_
          exact ⟨⟨r2, r3⟩, y, rfl, a2, by simp only; omega, a3, by simp only; omega, by omega, by omega, Pv17.bel⟩
        · obtain ⟨y0, y1, yf⟩ := Pv15.res.two
          go_simp
          obtain ⟨v18, hwv18⟩ : ∃ x, x = (v15.setCell ⟨w.heap.size, 0, none⟩ (.int .i64 r2)).setCell ⟨w.heap.size, 1, none⟩ (.int .i64 r3) := ⟨_, rfl⟩
          have Pv18 := Pv15.store
          rw [← hwv18] at Pv18
          have L6v18 := Loc.other' (p := ⟨w.heap.size, 1, none⟩) (by simpa using zXv11) (Loc.other' (p := ⟨w.heap.size, 0, none⟩) (by simpa using zXv11) L6v15 (.int .i64 r2)) (.int .i64 r3)
          rw [← hwv18] at L6v18
          obtain ⟨x0, x1, xf⟩ := Pv18.box.two
          rw [← hwv18]
          refine hK.out _ _ ?_ (fun hHeld => ?_)
          focus (exact ⟨x0, x1, L6v18⟩)
          clear hK K hwv18 x0 x1 xf y0 y1 yf
          (try simp only [Act.put, List.setIfInBounds_toArray, List.set_cons_zero, List.set_cons_succ])
          refine wpAnyH_ready (rs := [5]) (by kernel_rfl) (by simp) ?_
          refine AllReadyH.cons (o := _) rfl (fun K hK => ?_) AllReadyH.nil
          go_simp
          obtain ⟨v19, hwv19⟩ : ∃ x, x = v18.alloc (.cells #[.int .i64 r4, .int .i64 r2, .int .i64 (-1), .int .i64 1001] 3) := ⟨_, rfl⟩
          have Pv19 := Pv18.alloc (.cells #[.int .i64 r4, .int .i64 r2, .int .i64 (-1), .int .i64 1001] 3)
          rw [← hwv19] at Pv19
          have L6v19 := Loc.alloc L6v18 (.cells #[.int .i64 r4, .int .i64 r2, .int .i64 (-1), .int .i64 1001] 3)
          rw [← hwv19] at L6v19
          have L5v19 : Loc v19 v18.heap.size [.int .i64 r4, .int .i64 r2, .int .i64 (-1), .int .i64 1001] := by rw [hwv19]; exact Loc.newAt v18 [.int .i64 r4, .int .i64 r2, .int .i64 (-1), .int .i64 1001] 3 rfl
          have zLv19 := L5v19.lt
          have zRv19 : v18.heap.size ≠ R := by have := Pv18.rd.lt; omega
          have zXv19 : v18.heap.size ≠ w.heap.size := by have := Pv18.res.lt; omega
          obtain ⟨x0, x1, xf⟩ := Pv19.box.two
          rw [← hwv19]
          refine hK.out _ _ ?_ (fun hHeld => ?_)
          focus (exact ⟨x0, x1, L6v19⟩)
          clear hK K hwv19
          (try simp only [Act.put, List.setIfInBounds_toArray, List.set_cons_zero, List.set_cons_succ])
          refine wpAnyH_more (S' := fun w' => w'.cell? ⟨w3.heap.size, 0, none⟩ = some (.int .i64 r2) ∧ w'.cell? ⟨w3.heap.size, 1, none⟩ = some (.int .i64 r3) ∧ Loc w' v1.heap.size [.int .i64 0, .int .i64 0, .int .i64 0, .int .i64 1, .int .i64 2, .int .i64 3] ∧ Loc w' v18.heap.size [.int .i64 r4, .int .i64 r2, .int .i64 (-1), .int .i64 1001]) (fun _ h => ⟨h.1, h.2.1, h.2.2.1⟩) ⟨x0, x1, L6v19, L5v19⟩ (fun hHeld => ?_)
          clear x0 x1 xf
          (refine wpAnyH_take (i := 11) (oi := _) (v := ?_) rfl (by kernel_rfl) (by kernel_rfl) (by kernel_rfl) (fun _ _ _ h => h) (Or.inl ⟨by rfl, ?_⟩) (by assumption) ?_; rotate_left; (focus (intro wS hSw; (try dsimp only at hSw); go_simp; (try with_reducible rfl); done)); (try simp only [Act.put, List.setIfInBounds_toArray, List.set_cons_zero, List.set_cons_succ]))
          (refine wpAnyH_take (i := 12) (oi := _) (v := ?_) rfl (by kernel_rfl) (by kernel_rfl) (by kernel_rfl) (fun _ _ _ h => h) (Or.inl ⟨by rfl, ?_⟩) (by assumption) ?_; rotate_left; (focus (intro wS hSw; (try dsimp only at hSw); (first | (have hcx := HX5.out _ _ hSw.2.2) | (have hcx := HX5.out _ _ hSw.2.2.1) | (have hcx := HX5.out _ _ hSw.2.2.2)); clear hSw; go_simp; (try with_reducible rfl); done)); (try simp only [Act.put, List.setIfInBounds_toArray, List.set_cons_zero, List.set_cons_succ]))
          (refine wpAnyH_take (i := 14) (oi := _) (v := ?_) rfl (by kernel_rfl) (by kernel_rfl) (by kernel_rfl) (fun _ _ _ h => h) (Or.inl ⟨by rfl, ?_⟩) (by assumption) ?_; rotate_left; (focus (intro wS hSw; (try dsimp only at hSw); go_simp; (try with_reducible rfl); done)); (try simp only [Act.put, List.setIfInBounds_toArray, List.set_cons_zero, List.set_cons_succ]))
          refine wpAnyH_done (by kernel_rfl) ?_ _
          refine NoPanic.normal ?_
          obtain ⟨y0, y1, yf⟩ := Pv19.res.two
          try simp only [List.getElem_toArray, List.getElem_cons_succ, List.getElem_cons_zero, Act.put, List.setIfInBounds_toArray, List.set_cons_zero, List.set_cons_succ]
          go_wp2
          refine bodyPost_ret (v := .tuple #[.agg #[.int .i64 r2, .int .i64 r3], .int .i64 y]) (by simp [results, Try.results16, go_sem, *]; done) rfl ?_
          exact ⟨⟨r2, r3⟩, y, rfl, a2, by simp only; omega, a3, by simp only; omega, by omega, by omega, Pv19.bel⟩
    · go_simp
      refine (pick_any w.heap.size R (0 + 1 + 1 + 1) 6 _ Pv1.rd (by omega) (by omega) (by omega)).mono ?_
      rintro e v20 ⟨r5, rfl, a5, b5, hR5, hg5⟩
      have b5' := b5 (by omega)
      clear b5
      have Pv20 := Pv1.pick hg5 (hR5.to (p' := 0 + 1 + 1 + 1 + 1) (by omega))
      clear hg5 hR5
      obtain ⟨x, hxm, hx6⟩ := lit_in [0, 0, 0, 1, 2, 3] r5 a5 (by simp; omega)
      have HX6 := Lib.hid hx6
      have hx03 : 0 ≤ x ∧ x ≤ 3 := by
        simp only [List.mem_cons, List.not_mem_nil, or_false] at hxm
        omega
      obtain ⟨hx0, hx3⟩ := hx03
      have hx4 : x < 4 := by omega
      obtain ⟨y, hym, hx5⟩ := lit_in [r4, r2, -1, 1001] x hx0 (by simp; omega)
      have HX5 := Lib.hid hx5
      have hyb : -1 ≤ y ∧ y ≤ 1001 := by
        simp only [List.mem_cons, List.not_mem_nil, or_false] at hym
        omega
      obtain ⟨hy0, hy1⟩ := hyb
      clear hxm hym hx6 hx5
      obtain ⟨x0, x1, xf⟩ := Pv20.box.two
      go_wp2_with fail
      refine hK.out _ _ ?_ (fun hHeld => ?_)
      focus (exact ⟨x0, x1⟩)
      clear hK K x0 x1 xf
      (try simp only [Act.put, List.setIfInBounds_toArray, List.set_cons_zero, List.set_cons_succ])
      refine wpAnyH_ready (rs := [5, 6, 13]) (by kernel_rfl) (by simp) ?_
      refine AllReadyH.cons (o := _) rfl (fun K hK => ?_) (AllReadyH.cons (o := _) rfl (fun K hK => ?_) (AllReadyH.cons (o := _) rfl (fun K hK => ?_) AllReadyH.nil))
      · go_simp
        obtain ⟨v21, hwv21⟩ : ∃ x, x = v20.alloc (.cells #[.int .i64 r4, .int .i64 r2, .int .i64 (-1), .int .i64 1001] 3) := ⟨_, rfl⟩
        have Pv21 := Pv20.alloc (.cells #[.int .i64 r4, .int .i64 r2, .int .i64 (-1), .int .i64 1001] 3)
        rw [← hwv21] at Pv21
        have L5v21 : Loc v21 v20.heap.size [.int .i64 r4, .int .i64 r2, .int .i64 (-1), .int .i64 1001] := by rw [hwv21]; exact Loc.newAt v20 [.int .i64 r4, .int .i64 r2, .int .i64 (-1), .int .i64 1001] 3 rfl
        have zLv21 := L5v21.lt
        have zRv21 : v20.heap.size ≠ R := by have := Pv20.rd.lt; omega
        have zXv21 : v20.heap.size ≠ w.heap.size := by have := Pv20.res.lt; omega
        obtain ⟨x0, x1, xf⟩ := Pv21.box.two
        rw [← hwv21]
        refine hK.out _ _ ?_ (fun hHeld => ?_)
        focus (exact ⟨x0, x1⟩)
        clear hK K hwv21
        (try simp only [Act.put, List.setIfInBounds_toArray, List.set_cons_zero, List.set_cons_succ])
        refine wpAnyH_more (S' := fun w' => w'.cell? ⟨w3.heap.size, 0, none⟩ = some (.int .i64 r2) ∧ w'.cell? ⟨w3.heap.size, 1, none⟩ = some (.int .i64 r3) ∧ Loc w' v20.heap.size [.int .i64 r4, .int .i64 r2, .int .i64 (-1), .int .i64 1001]) (fun _ h => ⟨h.1, h.2.1⟩) ⟨x0, x1, L5v21⟩ (fun hHeld => ?_)
        clear x0 x1 xf
        refine wpAnyH_ready (rs := [6, 13]) (by kernel_rfl) (by simp) ?_
        refine AllReadyH.cons (o := _) rfl (fun K hK => ?_) (AllReadyH.cons (o := _) rfl (fun K hK => ?_) AllReadyH.nil)
        · go_simp
          obtain ⟨v22, hwv22⟩ : ∃ x, x = v21.alloc (.cells #[.int .i64 0, .int .i64 0, .int .i64 0, .int .i64 1, .int .i64 2, .int .i64 3] 3) := ⟨_, rfl⟩
          have Pv22 := Pv21.alloc (.cells #[.int .i64 0, .int .i64 0, .int .i64 0, .int .i64 1, .int .i64 2, .int .i64 3] 3)
          rw [← hwv22] at Pv22
          have L5v22 := Loc.alloc L5v21 (.cells #[.int .i64 0, .int .i64 0, .int .i64 0, .int .i64 1, .int .i64 2, .int .i64 3] 3)
          rw [← hwv22] at L5v22
          have L6v22 : Loc v22 v21.heap.size [.int .i64 0, .int .i64 0, .int .i64 0, .int .i64 1, .int .i64 2, .int .i64 3] := by rw [hwv22]; exact Loc.newAt v21 [.int .i64 0, .int .i64 0, .int .i64 0, .int .i64 1, .int .i64 2, .int .i64 3] 3 rfl
          have zLv22 := L6v22.lt
          have zRv22 : v21.heap.size ≠ R := by have := Pv21.rd.lt; omega
          have zXv22 : v21.heap.size ≠ w.heap.size := by have := Pv21.res.lt; omega
          obtain ⟨x0, x1, xf⟩ := Pv22.box.two
          rw [← hwv22]
          refine hK.out _ _ ?_ (fun hHeld => ?_)
          focus (exact ⟨x0, x1, L5v22⟩)
          clear hK K hwv22
          (try simp only [Act.put, List.setIfInBounds_toArray, List.set_cons_zero, List.set_cons_succ])
          refine wpAnyH_more (S' := fun w' => w'.cell? ⟨w3.heap.size, 0, none⟩ = some (.int .i64 r2) ∧ w'.cell? ⟨w3.heap.size, 1, none⟩ = some (.int .i64 r3) ∧ Loc w' v20.heap.size [.int .i64 r4, .int .i64 r2, .int .i64 (-1), .int .i64 1001] ∧ Loc w' v21.heap.size [.int .i64 0, .int .i64 0, .int .i64 0, .int .i64 1, .int .i64 2, .int .i64 3]) (fun _ h => ⟨h.1, h.2.1, h.2.2.1⟩) ⟨x0, x1, L5v22, L6v22⟩ (fun hHeld => ?_)
          clear x0 x1 xf
          (refine wpAnyH_take (i := 9) (oi := _) (v := ?_) rfl (by kernel_rfl) (by kernel_rfl) (by kernel_rfl) (fun _ _ _ h => h) (Or.inl ⟨by rfl, ?_⟩) (by assumption) ?_; rotate_left; (focus (intro wS hSw; (try dsimp only at hSw); go_simp; (try with_reducible rfl); done)); (try simp only [Act.put, List.setIfInBounds_toArray, List.set_cons_zero, List.set_cons_succ]))
          (refine wpAnyH_take (i := 10) (oi := _) (v := ?_) rfl (by kernel_rfl) (by kernel_rfl) (by kernel_rfl) (fun _ _ _ h => h) (Or.inl ⟨by rfl, ?_⟩) (by assumption) ?_; rotate_left; (focus (intro wS hSw; (try dsimp only at hSw); (first | (have hcx := HX6.out _ _ hSw.2.2) | (have hcx := HX6.out _ _ hSw.2.2.1) | (have hcx := HX6.out _ _ hSw.2.2.2)); clear hSw; go_simp; (try with_reducible rfl); done)); (try simp only [Act.put, List.setIfInBounds_toArray, List.set_cons_zero, List.set_cons_succ]))
          (refine wpAnyH_take (i := 11) (oi := _) (v := ?_) rfl (by kernel_rfl) (by kernel_rfl) (by kernel_rfl) (fun _ _ _ h => h) (Or.inl ⟨by rfl, ?_⟩) (by assumption) ?_; rotate_left; (focus (intro wS hSw; (try dsimp only at hSw); go_simp; (try with_reducible rfl); done)); (try simp only [Act.put, List.setIfInBounds_toArray, List.set_cons_zero, List.set_cons_succ]))
          (refine wpAnyH_take (i := 12) (oi := _) (v := ?_) rfl (by kernel_rfl) (by kernel_rfl) (by kernel_rfl) (fun _ _ _ h => h) (Or.inl ⟨by rfl, ?_⟩) (by assumption) ?_; rotate_left; (focus (intro wS hSw; (try dsimp only at hSw); (first | (have hcx := HX5.out _ _ hSw.2.2) | (have hcx := HX5.out _ _ hSw.2.2.1) | (have hcx := HX5.out _ _ hSw.2.2.2)); clear hSw; go_simp; (try with_reducible rfl); done)); (try simp only [Act.put, List.setIfInBounds_toArray, List.set_cons_zero, List.set_cons_succ]))
          refine wpAnyH_ready (rs := [13]) (by kernel_rfl) (by simp) ?_
          refine AllReadyH.cons (o := _) rfl (fun K hK => ?_) AllReadyH.nil
          obtain ⟨y0, y1, yf⟩ := Pv22.res.two
          go_simp
          obtain ⟨v23, hwv23⟩ : ∃ x, x = (v22.setCell ⟨w.heap.size, 0, none⟩ (.int .i64 r2)).setCell ⟨w.heap.size, 1, none⟩ (.int .i64 r3) := ⟨_, rfl⟩
          have Pv23 := Pv22.store
          rw [← hwv23] at Pv23
          have L5v23 := Loc.other' (p := ⟨w.heap.size, 1, none⟩) (by simpa using zXv21) (Loc.other' (p := ⟨w.heap.size, 0, none⟩) (by simpa using zXv21) L5v22 (.int .i64 r2)) (.int .i64 r3)
          rw [← hwv23] at L5v23
          have L6v23 := Loc.other' (p := ⟨w.heap.size, 1, none⟩) (by simpa using zXv22) (Loc.other' (p := ⟨w.heap.size, 0, none⟩) (by simpa using zXv22) L6v22 (.int .i64 r2)) (.int .i64 r3)
          rw [← hwv23] at L6v23
          obtain ⟨x0, x1, xf⟩ := Pv23.box.two
          rw [← hwv23]
          refine hK.out _ _ ?_ (fun hHeld => ?_)
          focus (exact ⟨x0, x1, L5v23, L6v23⟩)
          clear hK K hwv23 x0 x1 xf y0 y1 yf
          (try simp only [Act.put, List.setIfInBounds_toArray, List.set_cons_zero, List.set_cons_succ])
          (refine wpAnyH_take (i := 14) (oi := _) (v := ?_) rfl (by kernel_rfl) (by kernel_rfl) (by kernel_rfl) (fun _ _ _ h => h) (Or.inl ⟨by rfl, ?_⟩) (by assumption) ?_; rotate_left; (focus (intro wS hSw; (try dsimp only at hSw); go_simp; (try with_reducible rfl); done)); (try simp only [Act.put, List.setIfInBounds_toArray, List.set_cons_zero, List.set_cons_succ]))
          refine wpAnyH_done (by kernel_rfl) ?_ _
          refine NoPanic.normal ?_
          obtain ⟨y0, y1, yf⟩ := Pv23.res.two
          try simp only [List.getElem_toArray, List.getElem_cons_succ, List.getElem_cons_zero, Act.put, List.setIfInBounds_toArray, List.set_cons_zero, List.set_cons_succ]
          go_wp2
          refine bodyPost_ret (v := .tuple #[.agg #[.int .i64 r2, .int .i64 r3], .int .i64 y]) (by simp [results, Try.results16, go_sem, *]; done) rfl ?_
          exact ⟨⟨r2, r3⟩, y, rfl, a2, by simp only; omega, a3, by simp only; omega, by omega, by omega, Pv23.bel⟩
        · obtain ⟨y0, y1, yf⟩ := Pv21.res.two
          go_simp
          obtain ⟨v24, hwv24⟩ : ∃ x, x = (v21.setCell ⟨w.heap.size, 0, none⟩ (.int .i64 r2)).setCell ⟨w.heap.size, 1, none⟩ (.int .i64 r3) := ⟨_, rfl⟩
          have Pv24 := Pv21.store
          rw [← hwv24] at Pv24
          have L5v24 := Loc.other' (p := ⟨w.heap.size, 1, none⟩) (by simpa using zXv21) (Loc.other' (p := ⟨w.heap.size, 0, none⟩) (by simpa using zXv21) L5v21 (.int .i64 r2)) (.int .i64 r3)
          rw [← hwv24] at L5v24
          obtain ⟨x0, x1, xf⟩ := Pv24.box.two
          rw [← hwv24]
          refine hK.out _ _ ?_ (fun hHeld => ?_)
          focus (exact ⟨x0, x1, L5v24⟩)
          clear hK K hwv24 x0 x1 xf y0 y1 yf
          (try simp only [Act.put, List.setIfInBounds_toArray, List.set_cons_zero, List.set_cons_succ])
          refine wpAnyH_ready (rs := [6]) (by kernel_rfl) (by simp) ?_
          refine AllReadyH.cons (o := _) rfl (fun K hK => ?_) AllReadyH.nil
          go_simp
          obtain ⟨v25, hwv25⟩ : ∃ x, x = v24.alloc (.cells #[.int .i64 0, .int .i64 0, .int .i64 0, .int .i64 1, .int .i64 2, .int .i64 3] 3) := ⟨_, rfl⟩
          have Pv25 := Pv24.alloc (.cells #[.int .i64 0, .int .i64 0, .int .i64 0, .int .i64 1, .int .i64 2, .int .i64 3] 3)
          rw [← hwv25] at Pv25
          have L5v25 := Loc.alloc L5v24 (.cells #[.int .i64 0, .int .i64 0, .int .i64 0, .int .i64 1, .int .i64 2, .int .i64 3] 3)
          rw [← hwv25] at L5v25
          have L6v25 : Loc v25 v24.heap.size [.int .i64 0, .int .i64 0, .int .i64 0, .int .i64 1, .int .i64 2, .int .i64 3] := by rw [hwv25]; exact Loc.newAt v24 [.int .i64 0, .int .i64 0, .int .i64 0, .int .i64 1, .int .i64 2, .int .i64 3] 3 rfl
          have zLv25 := L6v25.lt
          have zRv25 : v24.heap.size ≠ R := by have := Pv24.rd.lt; omega
          have zXv25 : v24.heap.size ≠ w.heap.size := by have := Pv24.res.lt; omega
          obtain ⟨x0, x1, xf⟩ := Pv25.box.two
          rw [← hwv25]
          refine hK.out _ _ ?_ (fun hHeld => ?_)
          focus (exact ⟨x0, x1, L5v25⟩)
          clear hK K hwv25
          (try simp only [Act.put, List.setIfInBounds_toArray, List.set_cons_zero, List.set_cons_succ])
          refine wpAnyH_more (S' := fun w' => w'.cell? ⟨w3.heap.size, 0, none⟩ = some (.int .i64 r2) ∧ w'.cell? ⟨w3.heap.size, 1, none⟩ = some (.int .i64 r3) ∧ Loc w' v20.heap.size [.int .i64 r4, .int .i64 r2, .int .i64 (-1), .int .i64 1001] ∧ Loc w' v24.heap.size [.int .i64 0, .int .i64 0, .int .i64 0, .int .i64 1, .int .i64 2, .int .i64 3]) (fun _ h => ⟨h.1, h.2.1, h.2.2.1⟩) ⟨x0, x1, L5v25, L6v25⟩ (fun hHeld => ?_)
          clear x0 x1 xf
          (refine wpAnyH_take (i := 9) (oi := _) (v := ?_) rfl (by kernel_rfl) (by kernel_rfl) (by kernel_rfl) (fun _ _ _ h => h) (Or.inl ⟨by rfl, ?_⟩) (by assumption) ?_; rotate_left; (focus (intro wS hSw; (try dsimp only at hSw); go_simp; (try with_reducible rfl); done)); (try simp only [Act.put, List.setIfInBounds_toArray, List.set_cons_zero, List.set_cons_succ]))
          (refine wpAnyH_take (i := 10) (oi := _) (v := ?_) rfl (by kernel_rfl) (by kernel_rfl) (by kernel_rfl) (fun _ _ _ h => h) (Or.inl ⟨by rfl, ?_⟩) (by assumption) ?_; rotate_left; (focus (intro wS hSw; (try dsimp only at hSw); (first | (have hcx := HX6.out _ _ hSw.2.2) | (have hcx := HX6.out _ _ hSw.2.2.1) | (have hcx := HX6.out _ _ hSw.2.2.2)); clear hSw; go_simp; (try with_reducible rfl); done)); (try simp only [Act.put, List.setIfInBounds_toArray, List.set_cons_zero, List.set_cons_succ]))
          (refine wpAnyH_take (i := 11) (oi := _) (v := ?_) rfl (by kernel_rfl) (by kernel_rfl) (by kernel_rfl) (fun _ _ _ h => h) (Or.inl ⟨by rfl, ?_⟩) (by assumption) ?_; rotate_left; (focus (intro wS hSw; (try dsimp only at hSw); go_simp; (try with_reducible rfl); done)); (try simp only [Act.put, List.setIfInBounds_toArray, List.set_cons_zero, List.set_cons_succ]))
          (refine wpAnyH_take (i := 12) (oi := _) (v := ?_) rfl (by kernel_rfl) (by kernel_rfl) (by kernel_rfl) (fun _ _ _ h => h) (Or.inl ⟨by rfl, ?_⟩) (by assumption) ?_; rotate_left; (focus (intro wS hSw; (try dsimp only at hSw); (first | (have hcx := HX5.out _ _ hSw.2.2) | (have hcx := HX5.out _ _ hSw.2.2.1) | (have hcx := HX5.out _ _ hSw.2.2.2)); clear hSw; go_simp; (try with_reducible rfl); done)); (try simp only [Act.put, List.setIfInBounds_toArray, List.set_cons_zero, List.set_cons_succ]))
          (refine wpAnyH_take (i := 14) (oi := _) (v := ?_) rfl (by kernel_rfl) (by kernel_rfl) (by kernel_rfl) (fun _ _ _ h => h) (Or.inl ⟨by rfl, ?_⟩) (by assumption) ?_; rotate_left; (focus (intro wS hSw; (try dsimp only at hSw); go_simp; (try with_reducible rfl); done)); (try simp only [Act.put, List.setIfInBounds_toArray, List.set_cons_zero, List.set_cons_succ]))
          refine wpAnyH_done (by kernel_rfl) ?_ _
          refine NoPanic.normal ?_
          obtain ⟨y0, y1, yf⟩ := Pv25.res.two
          try simp only [List.getElem_toArray, List.getElem_cons_succ, List.getElem_cons_zero, Act.put, List.setIfInBounds_toArray, List.set_cons_zero, List.set_cons_succ]
          go_wp2
          refine bodyPost_ret (v := .tuple #[.agg #[.int .i64 r2, .int .i64 r3], .int .i64 y]) (by simp [results, Try.results16, go_sem, *]; done) rfl ?_
          exact ⟨⟨r2, r3⟩, y, rfl, a2, by simp only; omega, a3, by simp only; omega, by omega, by omega, Pv25.bel⟩
      · go_simp
        obtain ⟨v26, hwv26⟩ : ∃ x, x = v20.alloc (.cells #[.int .i64 0, .int .i64 0, .int .i64 0, .int .i64 1, .int .i64 2, .int .i64 3] 3) := ⟨_, rfl⟩
        have Pv26 := Pv20.alloc (.cells #[.int .i64 0, .int .i64 0, .int .i64 0, .int .i64 1, .int .i64 2, .int .i64 3] 3)
        rw [← hwv26] at Pv26
        have L6v26 : Loc v26 v20.heap.size [.int .i64 0, .int .i64 0, .int .i64 0, .int .i64 1, .int .i64 2, .int .i64 3] := by rw [hwv26]; exact Loc.newAt v20 [.int .i64 0, .int .i64 0, .int .i64 0, .int .i64 1, .int .i64 2, .int .i64 3] 3 rfl
        have zLv26 := L6v26.lt
        have zRv26 : v20.heap.size ≠ R := by have := Pv20.rd.lt; omega
        have zXv26 : v20.heap.size ≠ w.heap.size := by have := Pv20.res.lt; omega
        obtain ⟨x0, x1, xf⟩ := Pv26.box.two
        rw [← hwv26]
        refine hK.out _ _ ?_ (fun hHeld => ?_)
        focus (exact ⟨x0, x1⟩)
        clear hK K hwv26
        (try simp only [Act.put, List.setIfInBounds_toArray, List.set_cons_zero, List.set_cons_succ])
        refine wpAnyH_more (S' := fun w' => w'.cell? ⟨w3.heap.size, 0, none⟩ = some (.int .i64 r2) ∧ w'.cell? ⟨w3.heap.size, 1, none⟩ = some (.int .i64 r3) ∧ Loc w' v20.heap.size [.int .i64 0, .int .i64 0, .int .i64 0, .int .i64 1, .int .i64 2, .int .i64 3]) (fun _ h => ⟨h.1, h.2.1⟩) ⟨x0, x1, L6v26⟩ (fun hHeld => ?_)
        clear x0 x1 xf
        (refine wpAnyH_take (i := 9) (oi := _) (v := ?_) rfl (by kernel_rfl) (by kernel_rfl) (by kernel_rfl) (fun _ _ _ h => h) (Or.inl ⟨by rfl, ?_⟩) (by assumption) ?_; rotate_left; (focus (intro wS hSw; (try dsimp only at hSw); go_simp; (try with_reducible rfl); done)); (try simp only [Act.put, List.setIfInBounds_toArray, List.set_cons_zero, List.set_cons_succ]))
        (refine wpAnyH_take (i := 10) (oi := _) (v := ?_) rfl (by kernel_rfl) (by kernel_rfl) (by kernel_rfl) (fun _ _ _ h => h) (Or.inl ⟨by rfl, ?_⟩) (by assumption) ?_; rotate_left; (focus (intro wS hSw; (try dsimp only at hSw); (first | (have hcx := HX6.out _ _ hSw.2.2) | (have hcx := HX6.out _ _ hSw.2.2.1) | (have hcx := HX6.out _ _ hSw.2.2.2)); clear hSw; go_simp; (try with_reducible rfl); done)); (try simp only [Act.put, List.setIfInBounds_toArray, List.set_cons_zero, List.set_cons_succ]))
        refine wpAnyH_ready (rs := [5, 13]) (by kernel_rfl) (by simp) ?_
        refine AllReadyH.cons (o := _) rfl (fun K hK => ?_) (AllReadyH.cons (o := _) rfl (fun K hK => ?_) AllReadyH.nil)
        · go_simp
          obtain ⟨v27, hwv27⟩ : ∃ x, x = v26.alloc (.cells #[.int .i64 r4, .int .i64 r2, .int .i64 (-1), .int .i64 1001] 3) := ⟨_, rfl⟩
          have Pv27 := Pv26.alloc (.cells #[.int .i64 r4, .int .i64 r2, .int .i64 (-1), .int .i64 1001] 3)
          rw [← hwv27] at Pv27
          have L6v27 := Loc.alloc L6v26 (.cells #[.int .i64 r4, .int .i64 r2, .int .i64 (-1), .int .i64 1001] 3)
          rw [← hwv27] at L6v27
          have L5v27 : Loc v27 v26.heap.size [.int .i64 r4, .int .i64 r2, .int .i64 (-1), .int .i64 1001] := by rw [hwv27]; exact Loc.newAt v26 [.int .i64 r4, .int .i64 r2, .int .i64 (-1), .int .i64 1001] 3 rfl
          have zLv27 := L5v27.lt
          have zRv27 : v26.heap.size ≠ R := by have := Pv26.rd.lt; omega
          have zXv27 : v26.heap.size ≠ w.heap.size := by have := Pv26.res.lt; omega
          obtain ⟨x0, x1, xf⟩ := Pv27.box.two
          rw [← hwv27]
          refine hK.out _ _ ?_ (fun hHeld => ?_)
          focus (exact ⟨x0, x1, L6v27⟩)
          clear hK K hwv27
          (try simp only [Act.put, List.setIfInBounds_toArray, List.set_cons_zero, List.set_cons_succ])
          refine wpAnyH_more (S' := fun w' => w'.cell? ⟨w3.heap.size, 0, none⟩ = some (.int .i64 r2) ∧ w'.cell? ⟨w3.heap.size, 1, none⟩ = some (.int .i64 r3) ∧ Loc w' v20.heap.size [.int .i64 0, .int .i64 0, .int .i64 0, .int .i64 1, .int .i64 2, .int .i64 3] ∧ Loc w' v26.heap.size [.int .i64 r4, .int .i64 r2, .int .i64 (-1), .int .i64 1001]) (fun _ h => ⟨h.1, h.2.1, h.2.2.1⟩) ⟨x0, x1, L6v27, L5v27⟩ (fun hHeld => ?_)
          clear x0 x1 xf
          (refine wpAnyH_take (i := 11) (oi := _) (v := ?_) rfl (by kernel_rfl) (by kernel_rfl) (by kernel_rfl) (fun _ _ _ h => h) (Or.inl ⟨by rfl, ?_⟩) (by assumption) ?_; rotate_left; (focus (intro wS hSw; (try dsimp only at hSw); go_simp; (try with_reducible rfl); done)); (try simp only [Act.put, List.setIfInBounds_toArray, List.set_cons_zero, List.set_cons_succ]))
          (refine wpAnyH_take (i := 12) (oi := _) (v := ?_) rfl (by kernel_rfl) (by kernel_rfl) (by kernel_rfl) (fun _ _ _ h => h) (Or.inl ⟨by rfl, ?_⟩) (by assumption) ?_; rotate_left; (focus (intro wS hSw; (try dsimp only at hSw); (first | (have hcx := HX5.out _ _ hSw.2.2) | (have hcx := HX5.out _ _ hSw.2.2.1) | (have hcx := HX5.out _ _ hSw.2.2.2)); clear hSw; go_simp; (try with_reducible rfl); done)); (try simp only [Act.put, List.setIfInBounds_toArray, List.set_cons_zero, List.set_cons_succ]))
          refine wpAnyH_ready (rs := [13]) (by kernel_rfl) (by simp) ?_
          refine AllReadyH.cons (o := _) rfl (fun K hK => ?_) AllReadyH.nil
          obtain ⟨y0, y1, yf⟩ := Pv27.res.two
          go_simp
          obtain ⟨v28, hwv28⟩ : ∃ x, x = (v27.setCell ⟨w.heap.size, 0, none⟩ (.int .i64 r2)).setCell ⟨w.heap.size, 1, none⟩ (.int .i64 r3) := ⟨_, rfl⟩
          have Pv28 := Pv27.store
          rw [← hwv28] at Pv28
          have L6v28 := Loc.other' (p := ⟨w.heap.size, 1, none⟩) (by simpa using zXv26) (Loc.other' (p := ⟨w.heap.size, 0, none⟩) (by simpa using zXv26) L6v27 (.int .i64 r2)) (.int .i64 r3)
          rw [← hwv28] at L6v28
          have L5v28 := Loc.other' (p := ⟨w.heap.size, 1, none⟩) (by simpa using zXv27) (Loc.other' (p := ⟨w.heap.size, 0, none⟩) (by simpa using zXv27) L5v27 (.int .i64 r2)) (.int .i64 r3)
          rw [← hwv28] at L5v28
          obtain ⟨x0, x1, xf⟩ := Pv28.box.two
          rw [← hwv28]
          refine hK.out _ _ ?_ (fun hHeld => ?_)
          focus (exact ⟨x0, x1, L6v28, L5v28⟩)
          clear hK K hwv28 x0 x1 xf y0 y1 yf
          (try simp only [Act.put, List.setIfInBounds_toArray, List.set_cons_zero, List.set_cons_succ])
          (refine wpAnyH_take (i := 14) (oi := _) (v := ?_) rfl (by kernel_rfl) (by kernel_rfl) (by kernel_rfl) (fun _ _ _ h => h) (Or.inl ⟨by rfl, ?_⟩) (by assumption) ?_; rotate_left; (focus (intro wS hSw; (try dsimp only at hSw); go_simp; (try with_reducible rfl); done)); (try simp only [Act.put, List.setIfInBounds_toArray, List.set_cons_zero, List.set_cons_succ]))
          refine wpAnyH_done (by kernel_rfl) ?_ _
          refine NoPanic.normal ?_
          obtain ⟨y0, y1, yf⟩ := Pv28.res.two
          try simp only [List.getElem_toArray, List.getElem_cons_succ, List.getElem_cons_zero, Act.put, List.setIfInBounds_toArray, List.set_cons_zero, List.set_cons_succ]
          go_wp2
          refine bodyPost_ret (v := .tuple #[.agg #[.int .i64 r2, .int .i64 r3], .int .i64 y]) (by simp [results, Try.results16, go_sem, *]; done) rfl ?_
          exact ⟨⟨r2, r3⟩, y, rfl, a2, by simp only; omega, a3, by simp only; omega, by omega, by omega, Pv28.bel⟩
        · obtain ⟨y0, y1, yf⟩ := Pv26.res.two
          go_simp
          obtain ⟨v29, hwv29⟩ : ∃ x, x = (v26.setCell ⟨w.heap.size, 0, none⟩ (.int .i64 r2)).setCell ⟨w.heap.size, 1, none⟩ (.int .i64 r3) := ⟨_, rfl⟩
          have Pv29 := Pv26.store
          rw [← hwv29] at Pv29
          have L6v29 := Loc.other' (p := ⟨w.heap.size, 1, none⟩) (by simpa using zXv26) (Loc.other' (p := ⟨w.heap.size, 0, none⟩) (by simpa using zXv26) L6v26 (.int .i64 r2)) (.int .i64 r3)
          rw [← hwv29] at L6v29
          obtain ⟨x0, x1, xf⟩ := Pv29.box.two
          rw [← hwv29]
          refine hK.out _ _ ?_ (fun hHeld => ?_)
          focus (exact ⟨x0, x1, L6v29⟩)
          clear hK K hwv29 x0 x1 xf y0 y1 yf
          (try simp only [Act.put, List.setIfInBounds_toArray, List.set_cons_zero, List.set_cons_succ])
          refine wpAnyH_ready (rs := [5]) (by kernel_rfl) (by simp) ?_
          refine AllReadyH.cons (o := _) rfl (fun K hK => ?_) AllReadyH.nil
          go_simp
          obtain ⟨v30, hwv30⟩ : ∃ x, x = v29.alloc (.cells #[.int .i64 r4, .int .i64 r2, .int .i64 (-1), .int .i64 1001] 3) := ⟨_, rfl⟩
          have Pv30 := Pv29.alloc (.cells #[.int .i64 r4, .int .i64 r2, .int .i64 (-1), .int .i64 1001] 3)
          rw [← hwv30] at Pv30
          have L6v30 := Loc.alloc L6v29 (.cells #[.int .i64 r4, .int .i64 r2, .int .i64 (-1), .int .i64 1001] 3)
          rw [← hwv30] at L6v30
          have L5v30 : Loc v30 v29.heap.size [.int .i64 r4, .int .i64 r2, .int .i64 (-1), .int .i64 1001] := by rw [hwv30]; exact Loc.newAt v29 [.int .i64 r4, .int .i64 r2, .int .i64 (-1), .int .i64 1001] 3 rfl
          have zLv30 := L5v30.lt
          have zRv30 : v29.heap.size ≠ R := by have := Pv29.rd.lt; omega
          have zXv30 : v29.heap.size ≠ w.heap.size := by have := Pv29.res.lt; omega
          obtain ⟨x0, x1, xf⟩ := Pv30.box.two
          rw [← hwv30]
          refine hK.out _ _ ?_ (fun hHeld => ?_)
          focus (exact ⟨x0, x1, L6v30⟩)
          clear hK K hwv30
          (try simp only [Act.put, List.setIfInBounds_toArray, List.set_cons_zero, List.set_cons_succ])
          refine wpAnyH_more (S' := fun w' => w'.cell? ⟨w3.heap.size, 0, none⟩ = some (.int .i64 r2) ∧ w'.cell? ⟨w3.heap.size, 1, none⟩ = some (.int .i64 r3) ∧ Loc w' v20.heap.size [.int .i64 0, .int .i64 0, .int .i64 0, .int .i64 1, .int .i64 2, .int .i64 3] ∧ Loc w' v29.heap.size [.int .i64 r4, .int .i64 r2, .int .i64 (-1), .int .i64 1001]) (fun _ h => ⟨h.1, h.2.1, h.2.2.1⟩) ⟨x0, x1, L6v30, L5v30⟩ (fun hHeld => ?_)
          clear x0 x1 xf
          (refine wpAnyH_take (i := 11) (oi := _) (v := ?_) rfl (by kernel_rfl) (by kernel_rfl) (by kernel_rfl) (fun _ _ _ h => h) (Or.inl ⟨by rfl, ?_⟩) (by assumption) ?_; rotate_left; (focus (intro wS hSw; (try dsimp only at hSw); go_simp; (try with_reducible rfl); done)); (try simp only [Act.put, List.setIfInBounds_toArray, List.set_cons_zero, List.set_cons_succ]))
          (refine wpAnyH_take (i := 12) (oi := _) (v := ?_) rfl (by kernel_rfl) (by kernel_rfl) (by kernel_rfl) (fun _ _ _ h => h) (Or.inl ⟨by rfl, ?_⟩) (by assumption) ?_; rotate_left; (focus (intro wS hSw; (try dsimp only at hSw); (first | (have hcx := HX5.out _ _ hSw.2.2) | (have hcx := HX5.out _ _ hSw.2.2.1) | (have hcx := HX5.out _ _ hSw.2.2.2)); clear hSw; go_simp; (try with_reducible rfl); done)); (try simp only [Act.put, List.setIfInBounds_toArray, List.set_cons_zero, List.set_cons_succ]))
          (refine wpAnyH_take (i := 14) (oi := _) (v := ?_) rfl (by kernel_rfl) (by kernel_rfl) (by kernel_rfl) (fun _ _ _ h => h) (Or.inl ⟨by rfl, ?_⟩) (by assumption) ?_; rotate_left; (focus (intro wS hSw; (try dsimp only at hSw); go_simp; (try with_reducible rfl); done)); (try simp only [Act.put, List.setIfInBounds_toArray, List.set_cons_zero, List.set_cons_succ]))
          refine wpAnyH_done (by kernel_rfl) ?_ _
          refine NoPanic.normal ?_
          obtain ⟨y0, y1, yf⟩ := Pv30.res.two
          try simp only [List.getElem_toArray, List.getElem_cons_succ, List.getElem_cons_zero, Act.put, List.setIfInBounds_toArray, List.set_cons_zero, List.set_cons_succ]
          go_wp2
          refine bodyPost_ret (v := .tuple #[.agg #[.int .i64 r2, .int .i64 r3], .int .i64 y]) (by simp [results, Try.results16, go_sem, *]; done) rfl ?_
          exact ⟨⟨r2, r3⟩, y, rfl, a2, by simp only; omega, a3, by simp only; omega, by omega, by omega, Pv30.bel⟩
      · obtain ⟨y0, y1, yf⟩ := Pv20.res.two
        go_simp
        obtain ⟨v31, hwv31⟩ : ∃ x, x = (v20.setCell ⟨w.heap.size, 0, none⟩ (.int .i64 r2)).setCell ⟨w.heap.size, 1, none⟩ (.int .i64 r3) := ⟨_, rfl⟩
        have Pv31 := Pv20.store
        rw [← hwv31] at Pv31
        obtain ⟨x0, x1, xf⟩ := Pv31.box.two
        rw [← hwv31]
        refine hK.out _ _ ?_ (fun hHeld => ?_)
        focus (exact ⟨x0, x1⟩)
        clear hK K hwv31 x0 x1 xf y0 y1 yf
        (try simp only [Act.put, List.setIfInBounds_toArray, List.set_cons_zero, List.set_cons_succ])
        refine wpAnyH_ready (rs := [5, 6]) (by kernel_rfl) (by simp) ?_
        refine AllReadyH.cons (o := _) rfl (fun K hK => ?_) (AllReadyH.cons (o := _) rfl (fun K hK => ?_) AllReadyH.nil)
        · go_simp
          obtain ⟨v32, hwv32⟩ : ∃ x, x = v31.alloc (.cells #[.int .i64 r4, .int .i64 r2, .int .i64 (-1), .int .i64 1001] 3) := ⟨_, rfl⟩
          have Pv32 := Pv31.alloc (.cells #[.int .i64 r4, .int .i64 r2, .int .i64 (-1), .int .i64 1001] 3)
          rw [← hwv32] at Pv32
          have L5v32 : Loc v32 v31.heap.size [.int .i64 r4, .int .i64 r2, .int .i64 (-1), .int .i64 1001] := by rw [hwv32]; exact Loc.newAt v31 [.int .i64 r4, .int .i64 r2, .int .i64 (-1), .int .i64 1001] 3 rfl
          have zLv32 := L5v32.lt
          have zRv32 : v31.heap.size ≠ R := by have := Pv31.rd.lt; omega
          have zXv32 : v31.heap.size ≠ w.heap.size := by have := Pv31.res.lt; omega
          obtain ⟨x0, x1, xf⟩ := Pv32.box.two
          rw [← hwv32]
          refine hK.out _ _ ?_ (fun hHeld => ?_)
          focus (exact ⟨x0, x1⟩)
          clear hK K hwv32
          (try simp only [Act.put, List.setIfInBounds_toArray, List.set_cons_zero, List.set_cons_succ])
          refine wpAnyH_more (S' := fun w' => w'.cell? ⟨w3.heap.size, 0, none⟩ = some (.int .i64 r2) ∧ w'.cell? ⟨w3.heap.size, 1, none⟩ = some (.int .i64 r3) ∧ Loc w' v31.heap.size [.int .i64 r4, .int .i64 r2, .int .i64 (-1), .int .i64 1001]) (fun _ h => ⟨h.1, h.2.1⟩) ⟨x0, x1, L5v32⟩ (fun hHeld => ?_)
          clear x0 x1 xf
          refine wpAnyH_ready (rs := [6]) (by kernel_rfl) (by simp) ?_
          refine AllReadyH.cons (o := _) rfl (fun K hK => ?_) AllReadyH.nil
          go_simp
          obtain ⟨v33, hwv33⟩ : ∃ x, x = v32.alloc (.cells #[.int .i64 0, .int .i64 0, .int .i64 0, .int .i64 1, .int .i64 2, .int .i64 3] 3) := ⟨_, rfl⟩
          have Pv33 := Pv32.alloc (.cells #[.int .i64 0, .int .i64 0, .int .i64 0, .int .i64 1, .int .i64 2, .int .i64 3] 3)
          rw [← hwv33] at Pv33
          have L5v33 := Loc.alloc L5v32 (.cells #[.int .i64 0, .int .i64 0, .int .i64 0, .int .i64 1, .int .i64 2, .int .i64 3] 3)
          rw [← hwv33] at L5v33
          have L6v33 : Loc v33 v32.heap.size [.int .i64 0, .int .i64 0, .int .i64 0, .int .i64 1, .int .i64 2, .int .i64 3] := by rw [hwv33]; exact Loc.newAt v32 [.int .i64 0, .int .i64 0, .int .i64 0, .int .i64 1, .int .i64 2, .int .i64 3] 3 rfl
          have zLv33 := L6v33.lt
          have zRv33 : v32.heap.size ≠ R := by have := Pv32.rd.lt; omega
          have zXv33 : v32.heap.size ≠ w.heap.size := by have := Pv32.res.lt; omega
          obtain ⟨x0, x1, xf⟩ := Pv33.box.two
          rw [← hwv33]
          refine hK.out _ _ ?_ (fun hHeld => ?_)
          focus (exact ⟨x0, x1, L5v33⟩)
          clear hK K hwv33
          (try simp only [Act.put, List.setIfInBounds_toArray, List.set_cons_zero, List.set_cons_succ])
          refine wpAnyH_more (S' := fun w' => w'.cell? ⟨w3.heap.size, 0, none⟩ = some (.int .i64 r2) ∧ w'.cell? ⟨w3.heap.size, 1, none⟩ = some (.int .i64 r3) ∧ Loc w' v31.heap.size [.int .i64 r4, .int .i64 r2, .int .i64 (-1), .int .i64 1001] ∧ Loc w' v32.heap.size [.int .i64 0, .int .i64 0, .int .i64 0, .int .i64 1, .int .i64 2, .int .i64 3]) (fun _ h => ⟨h.1, h.2.1, h.2.2.1⟩) ⟨x0, x1, L5v33, L6v33⟩ (fun hHeld => ?_)
          clear x0 x1 xf
          (refine wpAnyH_take (i := 9) (oi := _) (v := ?_) rfl (by kernel_rfl) (by kernel_rfl) (by kernel_rfl) (fun _ _ _ h => h) (Or.inl ⟨by rfl, ?_⟩) (by assumption) ?_; rotate_left; (focus (intro wS hSw; (try dsimp only at hSw); go_simp; (try with_reducible rfl); done)); (try simp only [Act.put, List.setIfInBounds_toArray, List.set_cons_zero, List.set_cons_succ]))
          (refine wpAnyH_take (i := 10) (oi := _) (v := ?_) rfl (by kernel_rfl) (by kernel_rfl) (by kernel_rfl) (fun _ _ _ h => h) (Or.inl ⟨by rfl, ?_⟩) (by assumption) ?_; rotate_left; (focus (intro wS hSw; (try dsimp only at hSw); (first | (have hcx := HX6.out _ _ hSw.2.2) | (have hcx := HX6.out _ _ hSw.2.2.1) | (have hcx := HX6.out _ _ hSw.2.2.2)); clear hSw; go_simp; (try with_reducible rfl); done)); (try simp only [Act.put, List.setIfInBounds_toArray, List.set_cons_zero, List.set_cons_succ]))
          (refine wpAnyH_take (i := 11) (oi := _) (v := ?_) rfl (by kernel_rfl) (by kernel_rfl) (by kernel_rfl) (fun _ _ _ h => h) (Or.inl ⟨by rfl, ?_⟩) (by assumption) ?_; rotate_left; (focus (intro wS hSw; (try dsimp only at hSw); go_simp; (try with_reducible rfl); done)); (try simp only [Act.put, List.setIfInBounds_toArray, List.set_cons_zero, List.set_cons_succ]))
          (refine wpAnyH_take (i := 12) (oi := _) (v := ?_) rfl (by kernel_rfl) (by kernel_rfl) (by kernel_rfl) (fun _ _ _ h => h) (Or.inl ⟨by rfl, ?_⟩) (by assumption) ?_; rotate_left; (focus (intro wS hSw; (try dsimp only at hSw); (first | (have hcx := HX5.out _ _ hSw.2.2) | (have hcx := HX5.out _ _ hSw.2.2.1) | (have hcx := HX5.out _ _ hSw.2.2.2)); clear hSw; go_simp; (try with_reducible rfl); done)); (try simp only [Act.put, List.setIfInBounds_toArray, List.set_cons_zero, List.set_cons_succ]))
          (refine wpAnyH_take (i := 14) (oi := _) (v := ?_) rfl (by kernel_rfl) (by kernel_rfl) (by kernel_rfl) (fun _ _ _ h => h) (Or.inl ⟨by rfl, ?_⟩) (by assumption) ?_; rotate_left; (focus (intro wS hSw; (try dsimp only at hSw); go_simp; (try with_reducible rfl); done)); (try simp only [Act.put, List.setIfInBounds_toArray, List.set_cons_zero, List.set_cons_succ]))
          refine wpAnyH_done (by kernel_rfl) ?_ _
          refine NoPanic.normal ?_
          obtain ⟨y0, y1, yf⟩ := Pv33.res.two
          try simp only [List.getElem_toArray, List.getElem_cons_succ, List.getElem_cons_zero, Act.put, List.setIfInBounds_toArray, List.set_cons_zero, List.set_cons_succ]
          go_wp2
          refine bodyPost_ret (v := .tuple #[.agg #[.int .i64 r2, .int .i64 r3], .int .i64 y]) (by simp [results, Try.results16, go_sem, *]; done) rfl ?_
          exact ⟨⟨r2, r3⟩, y, rfl, a2, by simp only; omega, a3, by simp only; omega, by omega, by omega, Pv33.bel⟩
        · go_simp
          obtain ⟨v34, hwv34⟩ : ∃ x, x = v31.alloc (.cells #[.int .i64 0, .int .i64 0, .int .i64 0, .int .i64 1, .int .i64 2, .int .i64 3] 3) := ⟨_, rfl⟩
          have Pv34 := Pv31.alloc (.cells #[.int .i64 0, .int .i64 0, .int .i64 0, .int .i64 1, .int .i64 2, .int .i64 3] 3)
          rw [← hwv34] at Pv34
          have L6v34 : Loc v34 v31.heap.size [.int .i64 0, .int .i64 0, .int .i64 0, .int .i64 1, .int .i64 2, .int .i64 3] := by rw [hwv34]; exact Loc.newAt v31 [.int .i64 0, .int .i64 0, .int .i64 0, .int .i64 1, .int .i64 2, .int .i64 3] 3 rfl
          have zLv34 := L6v34.lt
          have zRv34 : v31.heap.size ≠ R := by have := Pv31.rd.lt; omega
          have zXv34 : v31.heap.size ≠ w.heap.size := by have := Pv31.res.lt; omega
          obtain ⟨x0, x1, xf⟩ := Pv34.box.two
          rw [← hwv34]
          refine hK.out _ _ ?_ (fun hHeld => ?_)
          focus (exact ⟨x0, x1⟩)
          clear hK K hwv34
          (try simp only [Act.put, List.setIfInBounds_toArray, List.set_cons_zero, List.set_cons_succ])
          refine wpAnyH_more (S' := fun w' => w'.cell? ⟨w3.heap.size, 0, none⟩ = some (.int .i64 r2) ∧ w'.cell? ⟨w3.heap.size, 1, none⟩ = some (.int .i64 r3) ∧ Loc w' v31.heap.size [.int .i64 0, .int .i64 0, .int .i64 0, .int .i64 1, .int .i64 2, .int .i64 3]) (fun _ h => ⟨h.1, h.2.1⟩) ⟨x0, x1, L6v34⟩ (fun hHeld => ?_)
          clear x0 x1 xf
          (refine wpAnyH_take (i := 9) (oi := _) (v := ?_) rfl (by kernel_rfl) (by kernel_rfl) (by kernel_rfl) (fun _ _ _ h => h) (Or.inl ⟨by rfl, ?_⟩) (by assumption) ?_; rotate_left; (focus (intro wS hSw; (try dsimp only at hSw); go_simp; (try with_reducible rfl); done)); (try simp only [Act.put, List.setIfInBounds_toArray, List.set_cons_zero, List.set_cons_succ]))
          (refine wpAnyH_take (i := 10) (oi := _) (v := ?_) rfl (by kernel_rfl) (by kernel_rfl) (by kernel_rfl) (fun _ _ _ h => h) (Or.inl ⟨by rfl, ?_⟩) (by assumption) ?_; rotate_left; (focus (intro wS hSw; (try dsimp only at hSw); (first | (have hcx := HX6.out _ _ hSw.2.2) | (have hcx := HX6.out _ _ hSw.2.2.1) | (have hcx := HX6.out _ _ hSw.2.2.2)); clear hSw; go_simp; (try with_reducible rfl); done)); (try simp only [Act.put, List.setIfInBounds_toArray, List.set_cons_zero, List.set_cons_succ]))
          refine wpAnyH_ready (rs := [5]) (by kernel_rfl) (by simp) ?_
          refine AllReadyH.cons (o := _) rfl (fun K hK => ?_) AllReadyH.nil
          go_simp
          obtain ⟨v35, hwv35⟩ : ∃ x, x = v34.alloc (.cells #[.int .i64 r4, .int .i64 r2, .int .i64 (-1), .int .i64 1001] 3) := ⟨_, rfl⟩
          have Pv35 := Pv34.alloc (.cells #[.int .i64 r4, .int .i64 r2, .int .i64 (-1), .int .i64 1001] 3)
          rw [← hwv35] at Pv35
          have L6v35 := Loc.alloc L6v34 (.cells #[.int .i64 r4, .int .i64 r2, .int .i64 (-1), .int .i64 1001] 3)
          rw [← hwv35] at L6v35
          have L5v35 : Loc v35 v34.heap.size [.int .i64 r4, .int .i64 r2, .int .i64 (-1), .int .i64 1001] := by rw [hwv35]; exact Loc.newAt v34 [.int .i64 r4, .int .i64 r2, .int .i64 (-1), .int .i64 1001] 3 rfl
          have zLv35 := L5v35.lt
          have zRv35 : v34.heap.size ≠ R := by have := Pv34.rd.lt; omega
          have zXv35 : v34.heap.size ≠ w.heap.size := by have := Pv34.res.lt; omega
          obtain ⟨x0, x1, xf⟩ := Pv35.box.two
          rw [← hwv35]
          refine hK.out _ _ ?_ (fun hHeld => ?_)
          focus (exact ⟨x0, x1, L6v35⟩)
          clear hK K hwv35
          (try simp only [Act.put, List.setIfInBounds_toArray, List.set_cons_zero, List.set_cons_succ])
          refine wpAnyH_more (S' := fun w' => w'.cell? ⟨w3.heap.size, 0, none⟩ = some (.int .i64 r2) ∧ w'.cell? ⟨w3.heap.size, 1, none⟩ = some (.int .i64 r3) ∧ Loc w' v31.heap.size [.int .i64 0, .int .i64 0, .int .i64 0, .int .i64 1, .int .i64 2, .int .i64 3] ∧ Loc w' v34.heap.size [.int .i64 r4, .int .i64 r2, .int .i64 (-1), .int .i64 1001]) (fun _ h => ⟨h.1, h.2.1, h.2.2.1⟩) ⟨x0, x1, L6v35, L5v35⟩ (fun hHeld => ?_)
          clear x0 x1 xf
          (refine wpAnyH_take (i := 11) (oi := _) (v := ?_) rfl (by kernel_rfl) (by kernel_rfl) (by kernel_rfl) (fun _ _ _ h => h) (Or.inl ⟨by rfl, ?_⟩) (by assumption) ?_; rotate_left; (focus (intro wS hSw; (try dsimp only at hSw); go_simp; (try with_reducible rfl); done)); (try simp only [Act.put, List.setIfInBounds_toArray, List.set_cons_zero, List.set_cons_succ]))
          (refine wpAnyH_take (i := 12) (oi := _) (v := ?_) rfl (by kernel_rfl) (by kernel_rfl) (by kernel_rfl) (fun _ _ _ h => h) (Or.inl ⟨by rfl, ?_⟩) (by assumption) ?_; rotate_left; (focus (intro wS hSw; (try dsimp only at hSw); (first | (have hcx := HX5.out _ _ hSw.2.2) | (have hcx := HX5.out _ _ hSw.2.2.1) | (have hcx := HX5.out _ _ hSw.2.2.2)); clear hSw; go_simp; (try with_reducible rfl); done)); (try simp only [Act.put, List.setIfInBounds_toArray, List.set_cons_zero, List.set_cons_succ]))
          (refine wpAnyH_take (i := 14) (oi := _) (v := ?_) rfl (by kernel_rfl) (by kernel_rfl) (by kernel_rfl) (fun _ _ _ h => h) (Or.inl ⟨by rfl, ?_⟩) (by assumption) ?_; rotate_left; (focus (intro wS hSw; (try dsimp only at hSw); go_simp; (try with_reducible rfl); done)); (try simp only [Act.put, List.setIfInBounds_toArray, List.set_cons_zero, List.set_cons_succ]))
          refine wpAnyH_done (by kernel_rfl) ?_ _
          refine NoPanic.normal ?_
          obtain ⟨y0, y1, yf⟩ := Pv35.res.two
          try simp only [List.getElem_toArray, List.getElem_cons_succ, List.getElem_cons_zero, Act.put, List.setIfInBounds_toArray, List.set_cons_zero, List.set_cons_succ]
          go_wp2
          refine bodyPost_ret (v := .tuple #[.agg #[.int .i64 r2, .int .i64 r3], .int .i64 y]) (by simp [results, Try.results16, go_sem, *]; done) rfl ?_
          exact ⟨⟨r2, r3⟩, y, rfl, a2, by simp only; omega, a3, by simp only; omega, by omega, by omega, Pv35.bel⟩
  · go_simp
    obtain ⟨v36, hwv36⟩ : ∃ x, x = va.alloc (.cells #[.int .i64 0, .int .i64 0, .int .i64 0, .int .i64 1, .int .i64 2, .int .i64 3] 3) := ⟨_, rfl⟩
    have Pv36 := Pva.alloc (.cells #[.int .i64 0, .int .i64 0, .int .i64 0, .int .i64 1, .int .i64 2, .int .i64 3] 3)
    rw [← hwv36] at Pv36
    have L6v36 : Loc v36 va.heap.size [.int .i64 0, .int .i64 0, .int .i64 0, .int .i64 1, .int .i64 2, .int .i64 3] := by rw [hwv36]; exact Loc.newAt va [.int .i64 0, .int .i64 0, .int .i64 0, .int .i64 1, .int .i64 2, .int .i64 3] 3 rfl
    have zLv36 := L6v36.lt
    have zRv36 : va.heap.size ≠ R := by have := Pva.rd.lt; omega
    have zXv36 : va.heap.size ≠ w.heap.size := by have := Pva.res.lt; omega
    obtain ⟨x0, x1, xf⟩ := Pv36.box.two
    rw [← hwv36]
    refine hK.out _ _ ?_ (fun hHeld => ?_)
    focus (exact ⟨x0, x1⟩)
    clear hK K hwv36
    (try simp only [Act.put, List.setIfInBounds_toArray, List.set_cons_zero, List.set_cons_succ])
    refine wpAnyH_more (S' := fun w' => w'.cell? ⟨w3.heap.size, 0, none⟩ = some (.int .i64 r2) ∧ w'.cell? ⟨w3.heap.size, 1, none⟩ = some (.int .i64 r3) ∧ Loc w' va.heap.size [.int .i64 0, .int .i64 0, .int .i64 0, .int .i64 1, .int .i64 2, .int .i64 3]) (fun _ h => ⟨h.1, h.2.1⟩) ⟨x0, x1, L6v36⟩ (fun hHeld => ?_)
    clear x0 x1 xf
    refine wpAnyH_ready (rs := [2]) (by kernel_rfl) (by simp) ?_
    refine AllReadyH.cons (o := _) rfl (fun K hK => ?_) AllReadyH.nil
    go_simp
    refine (pick_any w.heap.size R (0 + 1 + 1) 60 _ Pv36.rd (by omega) (by omega) (by omega)).mono ?_
    rintro e v37 ⟨r4, rfl, a4, b4, hR4, hg4⟩
    have b4' := b4 (by omega)
    clear b4
    have Pv37 := Pv36.pick hg4 (hR4.to (p' := 0 + 1 + 1 + 1) (by omega))
    have L6v37 := Loc.grown L6v36 hg4 (by omega)
    clear hg4 hR4
    obtain ⟨x0, x1, xf⟩ := Pv37.box.two
    go_wp2_with fail
    refine hK.out _ _ ?_ (fun hHeld => ?_)
    focus (exact ⟨x0, x1, L6v37⟩)
    clear hK K x0 x1 xf
    (try simp only [Act.put, List.setIfInBounds_toArray, List.set_cons_zero, List.set_cons_succ])
    refine wpAnyH_ready (rs := [5, 8]) (by kernel_rfl) (by simp) ?_
    refine AllReadyH.cons (o := _) rfl (fun K hK => ?_) (AllReadyH.cons (o := _) rfl (fun K hK => ?_) AllReadyH.nil)
    · go_simp
      obtain ⟨v38, hwv38⟩ : ∃ x, x = v37.alloc (.cells #[.int .i64 r4, .int .i64 r2, .int .i64 (-1), .int .i64 1001] 3) := ⟨_, rfl⟩
      have Pv38 := Pv37.alloc (.cells #[.int .i64 r4, .int .i64 r2, .int .i64 (-1), .int .i64 1001] 3)
      rw [← hwv38] at Pv38
      have L6v38 := Loc.alloc L6v37 (.cells #[.int .i64 r4, .int .i64 r2, .int .i64 (-1), .int .i64 1001] 3)
      rw [← hwv38] at L6v38
      have L5v38 : Loc v38 v37.heap.size [.int .i64 r4, .int .i64 r2, .int .i64 (-1), .int .i64 1001] := by rw [hwv38]; exact Loc.newAt v37 [.int .i64 r4, .int .i64 r2, .int .i64 (-1), .int .i64 1001] 3 rfl
      have zLv38 := L5v38.lt
      have zRv38 : v37.heap.size ≠ R := by have := Pv37.rd.lt; omega
      have zXv38 : v37.heap.size ≠ w.heap.size := by have := Pv37.res.lt; omega
      obtain ⟨x0, x1, xf⟩ := Pv38.box.two
      rw [← hwv38]
      refine hK.out _ _ ?_ (fun hHeld => ?_)
      focus (exact ⟨x0, x1, L6v38⟩)
      clear hK K hwv38
      (try simp only [Act.put, List.setIfInBounds_toArray, List.set_cons_zero, List.set_cons_succ])
      refine wpAnyH_more (S' := fun w' => w'.cell? ⟨w3.heap.size, 0, none⟩ = some (.int .i64 r2) ∧ w'.cell? ⟨w3.heap.size, 1, none⟩ = some (.int .i64 r3) ∧ Loc w' va.heap.size [.int .i64 0, .int .i64 0, .int .i64 0, .int .i64 1, .int .i64 2, .int .i64 3] ∧ Loc w' v37.heap.size [.int .i64 r4, .int .i64 r2, .int .i64 (-1), .int .i64 1001]) (fun _ h => ⟨h.1, h.2.1, h.2.2.1⟩) ⟨x0, x1, L6v38, L5v38⟩ (fun hHeld => ?_)
      clear x0 x1 xf
      refine wpAnyH_ready (rs := [8]) (by kernel_rfl) (by simp) ?_
      refine AllReadyH.cons (o := _) rfl (fun K hK => ?_) AllReadyH.nil
      go_simp
      refine (pick_any w.heap.size R (0 + 1 + 1 + 1) 6 _ Pv38.rd (by omega) (by omega) (by omega)).mono ?_
      rintro e v39 ⟨r5, rfl, a5, b5, hR5, hg5⟩
      have b5' := b5 (by omega)
      clear b5
      have Pv39 := Pv38.pick hg5 (hR5.to (p' := 0 + 1 + 1 + 1 + 1) (by omega))
      have L6v39 := Loc.grown L6v38 hg5 (by omega)
      have L5v39 := Loc.grown L5v38 hg5 (by omega)
      clear hg5 hR5
      obtain ⟨x, hxm, hx6⟩ := lit_in [0, 0, 0, 1, 2, 3] r5 a5 (by simp; omega)
      have HX6 := Lib.hid hx6
      have hx03 : 0 ≤ x ∧ x ≤ 3 := by
        simp only [List.mem_cons, List.not_mem_nil, or_false] at hxm
        omega
      obtain ⟨hx0, hx3⟩ := hx03
      have hx4 : x < 4 := by omega
      obtain ⟨y, hym, hx5⟩ := lit_in [r4, r2, -1, 1001] x hx0 (by simp; omega)
      have HX5 := Lib.hid hx5
      have hyb : -1 ≤ y ∧ y ≤ 1001 := by
        simp only [List.mem_cons, List.not_mem_nil, or_false] at hym
        omega
      obtain ⟨hy0, hy1⟩ := hyb
      clear hxm hym hx6 hx5
      obtain ⟨x0, x1, xf⟩ := Pv39.box.two
      go_wp2_with fail
      refine hK.out _ _ ?_ (fun hHeld => ?_)
      focus (exact ⟨x0, x1, L6v39, L5v39⟩)
      clear hK K x0 x1 xf
      (try simp only [Act.put, List.setIfInBounds_toArray, List.set_cons_zero, List.set_cons_succ])
      (refine wpAnyH_take (i := 9) (oi := _) (v := ?_) rfl (by kernel_rfl) (by kernel_rfl) (by kernel_rfl) (fun _ _ _ h => h) (Or.inl ⟨by rfl, ?_⟩) (by assumption) ?_; rotate_left; (focus (intro wS hSw; (try dsimp only at hSw); go_simp; (try with_reducible rfl); done)); (try simp only [Act.put, List.setIfInBounds_toArray, List.set_cons_zero, List.set_cons_succ]))
      (refine wpAnyH_take (i := 10) (oi := _) (v := ?_) rfl (by kernel_rfl) (by kernel_rfl) (by kernel_rfl) (fun _ _ _ h => h) (Or.inl ⟨by rfl, ?_⟩) (by assumption) ?_; rotate_left; (focus (intro wS hSw; (try dsimp only at hSw); (first | (have hcx := HX6.out _ _ hSw.2.2) | (have hcx := HX6.out _ _ hSw.2.2.1) | (have hcx := HX6.out _ _ hSw.2.2.2)); clear hSw; go_simp; (try with_reducible rfl); done)); (try simp only [Act.put, List.setIfInBounds_toArray, List.set_cons_zero, List.set_cons_succ]))
      (refine wpAnyH_take (i := 11) (oi := _) (v := ?_) rfl (by kernel_rfl) (by kernel_rfl) (by kernel_rfl) (fun _ _ _ h => h) (Or.inl ⟨by rfl, ?_⟩) (by assumption) ?_; rotate_left; (focus (intro wS hSw; (try dsimp only at hSw); go_simp; (try with_reducible rfl); done)); (try simp only [Act.put, List.setIfInBounds_toArray, List.set_cons_zero, List.set_cons_succ]))
      (refine wpAnyH_take (i := 12) (oi := _) (v := ?_) rfl (by kernel_rfl) (by kernel_rfl) (by kernel_rfl) (fun _ _ _ h => h) (Or.inl ⟨by rfl, ?_⟩) (by assumption) ?_; rotate_left; (focus (intro wS hSw; (try dsimp only at hSw); (first | (have hcx := HX5.out _ _ hSw.2.2) | (have hcx := HX5.out _ _ hSw.2.2.1) | (have hcx := HX5.out _ _ hSw.2.2.2)); clear hSw; go_simp; (try with_reducible rfl); done)); (try simp only [Act.put, List.setIfInBounds_toArray, List.set_cons_zero, List.set_cons_succ]))
      refine wpAnyH_ready (rs := [13]) (by kernel_rfl) (by simp) ?_
      refine AllReadyH.cons (o := _) rfl (fun K hK => ?_) AllReadyH.nil
      obtain ⟨y0, y1, yf⟩ := Pv39.res.two
      go_simp
      obtain ⟨v40, hwv40⟩ : ∃ x, x = (v39.setCell ⟨w.heap.size, 0, none⟩ (.int .i64 r2)).setCell ⟨w.heap.size, 1, none⟩ (.int .i64 r3) := ⟨_, rfl⟩
      have Pv40 := Pv39.store
      rw [← hwv40] at Pv40
      have L6v40 := Loc.other' (p := ⟨w.heap.size, 1, none⟩) (by simpa using zXv36) (Loc.other' (p := ⟨w.heap.size, 0, none⟩) (by simpa using zXv36) L6v39 (.int .i64 r2)) (.int .i64 r3)
      rw [← hwv40] at L6v40
      have L5v40 := Loc.other' (p := ⟨w.heap.size, 1, none⟩) (by simpa using zXv38) (Loc.other' (p := ⟨w.heap.size, 0, none⟩) (by simpa using zXv38) L5v39 (.int .i64 r2)) (.int .i64 r3)
      rw [← hwv40] at L5v40
      obtain ⟨x0, x1, xf⟩ := Pv40.box.two
      rw [← hwv40]
      refine hK.out _ _ ?_ (fun hHeld => ?_)
      focus (exact ⟨x0, x1, L6v40, L5v40⟩)
      clear hK K hwv40 x0 x1 xf y0 y1 yf
      (try simp only [Act.put, List.setIfInBounds_toArray, List.set_cons_zero, List.set_cons_succ])
      (refine wpAnyH_take (i := 14) (oi := _) (v := ?_) rfl (by kernel_rfl) (by kernel_rfl) (by kernel_rfl) (fun _ _ _ h => h) (Or.inl ⟨by rfl, ?_⟩) (by assumption) ?_; rotate_left; (focus (intro wS hSw; (try dsimp only at hSw); go_simp; (try with_reducible rfl); done)); (try simp only [Act.put, List.setIfInBounds_toArray, List.set_cons_zero, List.set_cons_succ]))
      refine wpAnyH_done (by kernel_rfl) ?_ _
      refine NoPanic.normal ?_
      obtain ⟨y0, y1, yf⟩ := Pv40.res.two
      try simp only [List.getElem_toArray, List.getElem_cons_succ, List.getElem_cons_zero, Act.put, List.setIfInBounds_toArray, List.set_cons_zero, List.set_cons_succ]
      go_wp2
      refine bodyPost_ret (v := .tuple #[.agg #[.int .i64 r2, .int .i64 r3], .int .i64 y]) (by simp [results, Try.results16, go_sem, *]; done) rfl ?_
      exact ⟨⟨r2, r3⟩, y, rfl, a2, by simp only; omega, a3, by simp only; omega, by omega, by omega, Pv40.bel⟩
    · go_simp
      refine (pick_any w.heap.size R (0 + 1 + 1 + 1) 6 _ Pv37.rd (by omega) (by omega) (by omega)).mono ?_
      rintro e v41 ⟨r5, rfl, a5, b5, hR5, hg5⟩
      have b5' := b5 (by omega)
      clear b5
      have Pv41 := Pv37.pick hg5 (hR5.to (p' := 0 + 1 + 1 + 1 + 1) (by omega))
      have L6v41 := Loc.grown L6v37 hg5 (by omega)
      clear hg5 hR5
      obtain ⟨x, hxm, hx6⟩ := lit_in [0, 0, 0, 1, 2, 3] r5 a5 (by simp; omega)
      have HX6 := Lib.hid hx6
      have hx03 : 0 ≤ x ∧ x ≤ 3 := by
        simp only [List.mem_cons, List.not_mem_nil, or_false] at hxm
        omega
      obtain ⟨hx0, hx3⟩ := hx03
      have hx4 : x < 4 := by omega
      obtain ⟨y, hym, hx5⟩ := lit_in [r4, r2, -1, 1001] x hx0 (by simp; omega)
      have HX5 := Lib.hid hx5
      have hyb : -1 ≤ y ∧ y ≤ 1001 := by
        simp only [List.mem_cons, List.not_mem_nil, or_false] at hym
        omega
      obtain ⟨hy0, hy1⟩ := hyb
      clear hxm hym hx6 hx5
      obtain ⟨x0, x1, xf⟩ := Pv41.box.two
      go_wp2_with fail
      refine hK.out _ _ ?_ (fun hHeld => ?_)
      focus (exact ⟨x0, x1, L6v41⟩)
      clear hK K x0 x1 xf
      (try simp only [Act.put, List.setIfInBounds_toArray, List.set_cons_zero, List.set_cons_succ])
      (refine wpAnyH_take (i := 9) (oi := _) (v := ?_) rfl (by kernel_rfl) (by kernel_rfl) (by kernel_rfl) (fun _ _ _ h => h) (Or.inl ⟨by rfl, ?_⟩) (by assumption) ?_; rotate_left; (focus (intro wS hSw; (try dsimp only at hSw); go_simp; (try with_reducible rfl); done)); (try simp only [Act.put, List.setIfInBounds_toArray, List.set_cons_zero, List.set_cons_succ]))
      (refine wpAnyH_take (i := 10) (oi := _) (v := ?_) rfl (by kernel_rfl) (by kernel_rfl) (by kernel_rfl) (fun _ _ _ h => h) (Or.inl ⟨by rfl, ?_⟩) (by assumption) ?_; rotate_left; (focus (intro wS hSw; (try dsimp only at hSw); (first | (have hcx := HX6.out _ _ hSw.2.2) | (have hcx := HX6.out _ _ hSw.2.2.1) | (have hcx := HX6.out _ _ hSw.2.2.2)); clear hSw; go_simp; (try with_reducible rfl); done)); (try simp only [Act.put, List.setIfInBounds_toArray, List.set_cons_zero, List.set_cons_succ]))
      refine wpAnyH_ready (rs := [5, 13]) (by kernel_rfl) (by simp) ?_
      refine AllReadyH.cons (o := _) rfl (fun K hK => ?_) (AllReadyH.cons (o := _) rfl (fun K hK => ?_) AllReadyH.nil)
      · go_simp
        obtain ⟨v42, hwv42⟩ : ∃ x, x = v41.alloc (.cells #[.int .i64 r4, .int .i64 r2, .int .i64 (-1), .int .i64 1001] 3) := ⟨_, rfl⟩
        have Pv42 := Pv41.alloc (.cells #[.int .i64 r4, .int .i64 r2, .int .i64 (-1), .int .i64 1001] 3)
        rw [← hwv42] at Pv42
        have L6v42 := Loc.alloc L6v41 (.cells #[.int .i64 r4, .int .i64 r2, .int .i64 (-1), .int .i64 1001] 3)
        rw [← hwv42] at L6v42
        have L5v42 : Loc v42 v41.heap.size [.int .i64 r4, .int .i64 r2, .int .i64 (-1), .int .i64 1001] := by rw [hwv42]; exact Loc.newAt v41 [.int .i64 r4, .int .i64 r2, .int .i64 (-1), .int .i64 1001] 3 rfl
        have zLv42 := L5v42.lt
        have zRv42 : v41.heap.size ≠ R := by have := Pv41.rd.lt; omega
        have zXv42 : v41.heap.size ≠ w.heap.size := by have := Pv41.res.lt; omega
        obtain ⟨x0, x1, xf⟩ := Pv42.box.two
        rw [← hwv42]
        refine hK.out _ _ ?_ (fun hHeld => ?_)
        focus (exact ⟨x0, x1, L6v42⟩)
        clear hK K hwv42
        (try simp only [Act.put, List.setIfInBounds_toArray, List.set_cons_zero, List.set_cons_succ])
        refine wpAnyH_more (S' := fun w' => w'.cell? ⟨w3.heap.size, 0, none⟩ = some (.int .i64 r2) ∧ w'.cell? ⟨w3.heap.size, 1, none⟩ = some (.int .i64 r3) ∧ Loc w' va.heap.size [.int .i64 0, .int .i64 0, .int .i64 0, .int .i64 1, .int .i64 2, .int .i64 3] ∧ Loc w' v41.heap.size [.int .i64 r4, .int .i64 r2, .int .i64 (-1), .int .i64 1001]) (fun _ h => ⟨h.1, h.2.1, h.2.2.1⟩) ⟨x0, x1, L6v42, L5v42⟩ (fun hHeld => ?_)
        clear x0 x1 xf
        (refine wpAnyH_take (i := 11) (oi := _) (v := ?_) rfl (by kernel_rfl) (by kernel_rfl) (by kernel_rfl) (fun _ _ _ h => h) (Or.inl ⟨by rfl, ?_⟩) (by assumption) ?_; rotate_left; (focus (intro wS hSw; (try dsimp only at hSw); go_simp; (try with_reducible rfl); done)); (try simp only [Act.put, List.setIfInBounds_toArray, List.set_cons_zero, List.set_cons_succ]))
        (refine wpAnyH_take (i := 12) (oi := _) (v := ?_) rfl (by kernel_rfl) (by kernel_rfl) (by kernel_rfl) (fun _ _ _ h => h) (Or.inl ⟨by rfl, ?_⟩) (by assumption) ?_; rotate_left; (focus (intro wS hSw; (try dsimp only at hSw); (first | (have hcx := HX5.out _ _ hSw.2.2) | (have hcx := HX5.out _ _ hSw.2.2.1) | (have hcx := HX5.out _ _ hSw.2.2.2)); clear hSw; go_simp; (try with_reducible rfl); done)); (try simp only [Act.put, List.setIfInBounds_toArray, List.set_cons_zero, List.set_cons_succ]))
        refine wpAnyH_ready (rs := [13]) (by kernel_rfl) (by simp) ?_
        refine AllReadyH.cons (o := _) rfl (fun K hK => ?_) AllReadyH.nil
        obtain ⟨y0, y1, yf⟩ := Pv42.res.two
        go_simp
        obtain ⟨v43, hwv43⟩ : ∃ x, x = (v42.setCell ⟨w.heap.size, 0, none⟩ (.int .i64 r2)).setCell ⟨w.heap.size, 1, none⟩ (.int .i64 r3) := ⟨_, rfl⟩
        have Pv43 := Pv42.store
        rw [← hwv43] at Pv43
        have L6v43 := Loc.other' (p := ⟨w.heap.size, 1, none⟩) (by simpa using zXv36) (Loc.other' (p := ⟨w.heap.size, 0, none⟩) (by simpa using zXv36) L6v42 (.int .i64 r2)) (.int .i64 r3)
        rw [← hwv43] at L6v43
        have L5v43 := Loc.other' (p := ⟨w.heap.size, 1, none⟩) (by simpa using zXv42) (Loc.other' (p := ⟨w.heap.size, 0, none⟩) (by simpa using zXv42) L5v42 (.int .i64 r2)) (.int .i64 r3)
        rw [← hwv43] at L5v43
        obtain ⟨x0, x1, xf⟩ := Pv43.box.two
        rw [← hwv43]
        refine hK.out _ _ ?_ (fun hHeld => ?_)
        focus (exact ⟨x0, x1, L6v43, L5v43⟩)
        clear hK K hwv43 x0 x1 xf y0 y1 yf
        (try simp only [Act.put, List.setIfInBounds_toArray, List.set_cons_zero, List.set_cons_succ])
        (refine wpAnyH_take (i := 14) (oi := _) (v := ?_) rfl (by kernel_rfl) (by kernel_rfl) (by kernel_rfl) (fun _ _ _ h => h) (Or.inl ⟨by rfl, ?_⟩) (by assumption) ?_; rotate_left; (focus (intro wS hSw; (try dsimp only at hSw); go_simp; (try with_reducible rfl); done)); (try simp only [Act.put, List.setIfInBounds_toArray, List.set_cons_zero, List.set_cons_succ]))
        refine wpAnyH_done (by kernel_rfl) ?_ _
        refine NoPanic.normal ?_
        obtain ⟨y0, y1, yf⟩ := Pv43.res.two
        try simp only [List.getElem_toArray, List.getElem_cons_succ, List.getElem_cons_zero, Act.put, List.setIfInBounds_toArray, List.set_cons_zero, List.set_cons_succ]
        go_wp2
        refine bodyPost_ret (v := .tuple #[.agg #[.int .i64 r2, .int .i64 r3], .int .i64 y]) (by simp [results, Try.results16, go_sem, *]; done) rfl ?_
        exact ⟨⟨r2, r3⟩, y, rfl, a2, by simp only; omega, a3, by simp only; omega, by omega, by omega, Pv43.bel⟩
      · obtain ⟨y0, y1, yf⟩ := Pv41.res.two
        go_simp
        obtain ⟨v44, hwv44⟩ : ∃ x, x = (v41.setCell ⟨w.heap.size, 0, none⟩ (.int .i64 r2)).setCell ⟨w.heap.size, 1, none⟩ (.int .i64 r3) := ⟨_, rfl⟩
        have Pv44 := Pv41.store
        rw [← hwv44] at Pv44
        have L6v44 := Loc.other' (p := ⟨w.heap.size, 1, none⟩) (by simpa using zXv36) (Loc.other' (p := ⟨w.heap.size, 0, none⟩) (by simpa using zXv36) L6v41 (.int .i64 r2)) (.int .i64 r3)
        rw [← hwv44] at L6v44
        obtain ⟨x0, x1, xf⟩ := Pv44.box.two
        rw [← hwv44]
        refine hK.out _ _ ?_ (fun hHeld => ?_)
        focus (exact ⟨x0, x1, L6v44⟩)
        clear hK K hwv44 x0 x1 xf y0 y1 yf
        (try simp only [Act.put, List.setIfInBounds_toArray, List.set_cons_zero, List.set_cons_succ])
        refine wpAnyH_ready (rs := [5]) (by kernel_rfl) (by simp) ?_
        refine AllReadyH.cons (o := _) rfl (fun K hK => ?_) AllReadyH.nil
        go_simp
        obtain ⟨v45, hwv45⟩ : ∃ x, x = v44.alloc (.cells #[.int .i64 r4, .int .i64 r2, .int .i64 (-1), .int .i64 1001] 3) := ⟨_, rfl⟩
        have Pv45 := Pv44.alloc (.cells #[.int .i64 r4, .int .i64 r2, .int .i64 (-1), .int .i64 1001] 3)
        rw [← hwv45] at Pv45
        have L6v45 := Loc.alloc L6v44 (.cells #[.int .i64 r4, .int .i64 r2, .int .i64 (-1), .int .i64 1001] 3)
        rw [← hwv45] at L6v45
        have L5v45 : Loc v45 v44.heap.size [.int .i64 r4, .int .i64 r2, .int .i64 (-1), .int .i64 1001] := by rw [hwv45]; exact Loc.newAt v44 [.int .i64 r4, .int .i64 r2, .int .i64 (-1), .int .i64 1001] 3 rfl
        have zLv45 := L5v45.lt
        have zRv45 : v44.heap.size ≠ R := by have := Pv44.rd.lt; omega
        have zXv45 : v44.heap.size ≠ w.heap.size := by have := Pv44.res.lt; omega
        obtain ⟨x0, x1, xf⟩ := Pv45.box.two
        rw [← hwv45]
        refine hK.out _ _ ?_ (fun hHeld => ?_)
        focus (exact ⟨x0, x1, L6v45⟩)
        clear hK K hwv45
        (try simp only [Act.put, List.setIfInBounds_toArray, List.set_cons_zero, List.set_cons_succ])
        refine wpAnyH_more (S' := fun w' => w'.cell? ⟨w3.heap.size, 0, none⟩ = some (.int .i64 r2) ∧ w'.cell? ⟨w3.heap.size, 1, none⟩ = some (.int .i64 r3) ∧ Loc w' va.heap.size [.int .i64 0, .int .i64 0, .int .i64 0, .int .i64 1, .int .i64 2, .int .i64 3] ∧ Loc w' v44.heap.size [.int .i64 r4, .int .i64 r2, .int .i64 (-1), .int .i64 1001]) (fun _ h => ⟨h.1, h.2.1, h.2.2.1⟩) ⟨x0, x1, L6v45, L5v45⟩ (fun hHeld => ?_)
        clear x0 x1 xf
        (refine wpAnyH_take (i := 11) (oi := _) (v := ?_) rfl (by kernel_rfl) (by kernel_rfl) (by kernel_rfl) (fun _ _ _ h => h) (Or.inl ⟨by rfl, ?_⟩) (by assumption) ?_; rotate_left; (focus (intro wS hSw; (try dsimp only at hSw); go_simp; (try with_reducible rfl); done)); (try simp only [Act.put, List.setIfInBounds_toArray, List.set_cons_zero, List.set_cons_succ]))
        (refine wpAnyH_take (i := 12) (oi := _) (v := ?_) rfl (by kernel_rfl) (by kernel_rfl) (by kernel_rfl) (fun _ _ _ h => h) (Or.inl ⟨by rfl, ?_⟩) (by assumption) ?_; rotate_left; (focus (intro wS hSw; (try dsimp only at hSw); (first | (have hcx := HX5.out _ _ hSw.2.2) | (have hcx := HX5.out _ _ hSw.2.2.1) | (have hcx := HX5.out _ _ hSw.2.2.2)); clear hSw; go_simp; (try with_reducible rfl); done)); (try simp only [Act.put, List.setIfInBounds_toArray, List.set_cons_zero, List.set_cons_succ]))
        (refine wpAnyH_take (i := 14) (oi := _) (v := ?_) rfl (by kernel_rfl) (by kernel_rfl) (by kernel_rfl) (fun _ _ _ h => h) (Or.inl ⟨by rfl, ?_⟩) (by assumption) ?_; rotate_left; (focus (intro wS hSw; (try dsimp only at hSw); go_simp; (try with_reducible rfl); done)); (try simp only [Act.put, List.setIfInBounds_toArray, List.set_cons_zero, List.set_cons_succ]))
        refine wpAnyH_done (by kernel_rfl) ?_ _
        refine NoPanic.normal ?_
        obtain ⟨y0, y1, yf⟩ := Pv45.res.two
        try simp only [List.getElem_toArray, List.getElem_cons_succ, List.getElem_cons_zero, Act.put, List.setIfInBounds_toArray, List.set_cons_zero, List.set_cons_succ]
        go_wp2
        refine bodyPost_ret (v := .tuple #[.agg #[.int .i64 r2, .int .i64 r3], .int .i64 y]) (by simp [results, Try.results16, go_sem, *]; done) rfl ?_
        exact ⟨⟨r2, r3⟩, y, rfl, a2, by simp only; omega, a3, by simp only; omega, by omega, by omega, Pv45.bel⟩
end Go.Proofs.Ytmgbenfmhgkogaa
