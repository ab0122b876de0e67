/-
  What the draw of a volume, a sector and a value gives. Conditions: the count of draws stays below 10^9.
-/
import Derived.Test.YtpekccmhfkeadaaBase
import Derived.Test.YtpekccmhfkeadaaNum
import Derived.Test.YtpekccmhfkeadaaInts
import Derived.Test.YtpekccmhfkeadaaApp
import Derived.Test.YtpekccmhfkeadaaIntsW
import Derived.Test.YtpekccmhfkeadaaLib
import Derived.Test.YtpekccmhfkeadaaSpares
import Derived.Test.YtpekccmhfkeadaaOwn
import Derived.Test.YtpekccmhfkeadaaCopy
import Derived.Test.YtpekccmhfkeadaaShared
import Derived.Test.YtpekccmhfkeadaaSharedM
import Derived.Test.YtpekccmhfkeadaaSharedC
import Derived.Test.YtpekccmhfkeadaaSharedV
import Derived.Test.YtpekccmhfkeadaaSharedU
import Derived.Test.YtpekccmhfkeadaaSharedD
import Derived.Test.YtpekccmhfkeadaaSharedWM
import Derived.Test.YtpekccmhfkeadaaDel
import Derived.Test.YtpekccmhfkeadaaThinC
import Derived.Test.YtpekccmhfkeadaaSharedP
import Derived.Test.YtpekccmhfkeadaaFlashX
import Derived.Test.YtpekccmhfkeadaaSharedPs
import Derived.Test.YtpekccmhfkeadaaDraw
import Derived.Test.YtpekccmhfkeadaaDrawK
import Derived.Test.YtpekccmhfkeadaaDrawD
import Derived.Test.YtpekccmhfkeadaaDrawShd
import Derived.IntWalk
namespace Go.Proofs.Ytpekccmhfkeadaa
open Go.RowKit
theorem lit_two (l : List Int) (r : Int) (h0 : 0 ≤ r) (h1 : r < l.length) : ∃ x : Int, (∀ (w : World) (b : Nat), Loc w b (l.map (Value.int .i64)) → w.cell? ⟨b, r.toNat, none⟩ = some (.int .i64 x)) ∧ (∀ h, (l.map (Value.int .i64))[r.toNat]'h = .int .i64 x) := by
  have hr : r.toNat < l.length := by omega
  exact ⟨l[r.toNat], fun w b h => h.cell (by simp [hr]), fun h => by simp⟩
def FreshShW (w : World) (e : Ending) (w' : World) : Prop :=
  ∃ y0 y1 s, ∃ x y : Int, e = .returned (.tuple #[.agg #[y0, y1], .int .i64 x, .int .i64 y]) ∧ SharedOwn w.heap.size w' w'.heap.size [y0, y1] s ∧ sizeShared s ≤ 400 ∧ Below w.heap.size w w'
set_option linter.unusedSimpArgs false in
set_option maxHeartbeats 4000000 in
theorem drawShW_any (A : Option Addr) (c : Nat) (l : List Int) (w : World) (hl : l.length ≤ c) (hm : c ≤ maxLen) (hr : Rd eByte w A l) (hb : ∀ x ∈ l, 0 ≤ x ∧ x ≤ 255) :
    Calls Try.prog 33 #[.slice A l.length c] w (FreshShW w) := by
  have HB := Lib.hid hb
  have L0 := Loc.new w [.slice none 0 0, .slice none 0 0] 30
  have hr1 := Lib.hid (Rd.alloc hr (.cells #[.slice none 0 0, .slice none 0 0] 30))
  clear hb
  have hA : Hid (∀ b off, 0 < l.length → A = some ⟨b, off, none⟩ → b < w.heap.size) := Lib.hid fun _ _ h0 hA => hr.lt h0 hA
  go_enter Try.func33, Try.ntmps33
  go_wp2_with fail
  refine (l20Open_any A c l _ hl hm hr1.out HB.out w.heap.size hA.out (by simp)).mono ?_
  rintro e w1 ⟨R, rfl, hR1, hge, hb1⟩
  replace L0 := Loc.carryB L0 (fun h => by ((repeat (first | with_reducible exact h | with_reducible refine Loc.drew ?_ | with_reducible refine Loc.drewN ?_ _ | with_reducible refine Loc.alloc ?_ _)); done)) hb1
  have HB1 : Hid (Below w.heap.size w w1) := Lib.hid (Below.next (W := w) (by repeat (first | with_reducible exact Below.refl _ _ | with_reducible refine below_drewN ?_ _ | with_reducible refine Below.drew ?_ | with_reducible refine Below.alloc ?_ ?_ _ | with_reducible refine Below.setCell ?_ ?_ _ | omega | (focus (simp; omega)) | (focus (simp; done)))) hb1)
  have hz1 := hb1.size
  simp at hge hz1
  clear hb1
  go_wp2_with fail
  refine (l20Shared_any w.heap.size R 0 12 _ hR1 (by omega) (by omega) (by omega) (by omega)).mono ?_
  rintro e w2 ⟨y0, y1, s, p2, rfl, hown, hsz, hR2, hp20, hp21, hgw⟩
  replace L0 := Loc.carry L0 (fun h => by ((repeat (first | with_reducible exact h | with_reducible refine Loc.drew ?_ | with_reducible refine Loc.drewN ?_ _ | with_reducible refine Loc.alloc ?_ _)); done)) hgw (by omega)
  have HB2 : Hid (Below w.heap.size w w2) := Lib.hid (below_of_grown HB1.out hgw (by omega) (by omega))
  have hz2 := hgw.size
  obtain ⟨Ay, cy, Ay', cy', rfl, rfl⟩ := sharedRd_lens (SharedOwn.rd hown)
  have HO := Lib.hid hown
  have hlt2 := hR2.lt
  have hwl : s.whr.length ≤ 400 := by unfold sizeShared at hsz; omega
  have LS := Loc.newAt w2 [.slice Ay s.whr.length cy, .slice Ay' s.cps.length cy'] 30 (b := w2.heap.size) rfl
  clear hgw hown
  have hRB : R < w1.heap.size := hR1.lt
  go_wp2
  have hw1 := IntWalk.i64_in ((s.whr.length : Int) + 1) (by omega)
  have k0 := (Loc.two LS).1
  have k1 := (Loc.two LS).2.1
  have HOC := Lib.hid (SharedOwn.alloc HO.out (.cells #[.slice Ay s.whr.length cy, .slice Ay' s.cps.length cy'] 30))
  have HBC := HB2
  clear HB2 HO
  refine wp_region_noPanic ?_
  refine wp_region_held_drew (S := fun w' => w'.cell? ⟨w2.heap.size, 0, none⟩ = some (.slice Ay s.whr.length cy) ∧ w'.cell? ⟨w2.heap.size, 1, none⟩ = some (.slice Ay' s.cps.length cy')) (by kernel_rfl) ?_ (fun hHeld => ?_)
  focus (exact ⟨k0, k1⟩)
  (refine wpAnyH_take (i := 0) (oi := _) (v := ?_) rfl (by kernel_rfl) (by kernel_rfl) (by kernel_rfl) (fun _ _ _ h => h) (Or.inl ⟨by rfl, ?_⟩) (by assumption) ?_; rotate_left; (focus (intro wS hSw; (try dsimp only at hSw); go_simp; (try with_reducible rfl); done)); (try simp only [Act.put, List.setIfInBounds_toArray, List.set_cons_zero, List.set_cons_succ]))
  (refine wpAnyH_take (i := 1) (oi := _) (v := ?_) rfl (by kernel_rfl) (by kernel_rfl) (by kernel_rfl) (fun _ _ _ h => h) (Or.inl ⟨by rfl, ?_⟩) (by assumption) ?_; rotate_left; (focus (intro wS hSw; (try dsimp only at hSw); go_simp; (try with_reducible rfl); done)); (try simp only [Act.put, List.setIfInBounds_toArray, List.set_cons_zero, List.set_cons_succ]))
  (refine wpAnyH_take (i := 2) (oi := _) (v := ?_) rfl (by kernel_rfl) (by kernel_rfl) (by kernel_rfl) (fun _ _ _ h => h) (Or.inl ⟨by rfl, ?_⟩) (by assumption) ?_; rotate_left; (focus (intro wS hSw; (try dsimp only at hSw); go_simp; (try with_reducible rfl); done)); (try simp only [Act.put, List.setIfInBounds_toArray, List.set_cons_zero, List.set_cons_succ]))
  (refine wpAnyH_take (i := 3) (oi := _) (v := ?_) rfl (by kernel_rfl) (by kernel_rfl) (by kernel_rfl) (fun _ _ _ h => h) (Or.inl ⟨by rfl, ?_⟩) (by assumption) ?_; rotate_left; (focus (intro wS hSw; (try dsimp only at hSw); go_simp; (try with_reducible rfl); done)); (try simp only [Act.put, List.setIfInBounds_toArray, List.set_cons_zero, List.set_cons_succ]))
  (refine wpAnyH_take (i := 4) (oi := _) (v := ?_) rfl (by kernel_rfl) (by kernel_rfl) (by kernel_rfl) (fun _ _ _ h => h) (Or.inl ⟨by rfl, ?_⟩) (by assumption) ?_; rotate_left; (focus (intro wS hSw; (try dsimp only at hSw); go_simp; (try with_reducible rfl); done)); (try simp only [Act.put, List.setIfInBounds_toArray, List.set_cons_zero, List.set_cons_succ]))
  (refine wpAnyH_take (i := 5) (oi := _) (v := ?_) rfl (by kernel_rfl) (by kernel_rfl) (by kernel_rfl) (fun _ _ _ h => h) (Or.inl ⟨by rfl, ?_⟩) (by assumption) ?_; rotate_left; (focus (intro wS hSw; (try dsimp only at hSw); go_simp; (try with_reducible rfl); done)); (try simp only [Act.put, List.setIfInBounds_toArray, List.set_cons_zero, List.set_cons_succ]))
  (refine wpAnyH_take (i := 7) (oi := _) (v := ?_) rfl (by kernel_rfl) (by kernel_rfl) (by kernel_rfl) (fun _ _ _ h => h) (Or.inl ⟨by rfl, ?_⟩) (by assumption) ?_; rotate_left; (focus (intro wS hSw; (try dsimp only at hSw); go_simp; (try with_reducible rfl); done)); (try simp only [Act.put, List.setIfInBounds_toArray, List.set_cons_zero, List.set_cons_succ]))
  (refine wpAnyH_take (i := 11) (oi := _) (v := ?_) rfl (by kernel_rfl) (by kernel_rfl) (by kernel_rfl) (fun _ _ _ h => h) (Or.inl ⟨by rfl, ?_⟩) (by assumption) ?_; rotate_left; (focus (intro wS hSw; (try dsimp only at hSw); go_simp; (try with_reducible rfl); done)); (try simp only [Act.put, List.setIfInBounds_toArray, List.set_cons_zero, List.set_cons_succ]))
  (refine wpAnyH_take (i := 13) (oi := _) (v := ?_) rfl (by kernel_rfl) (by kernel_rfl) (by kernel_rfl) (fun _ _ _ h => h) (Or.inl ⟨by rfl, ?_⟩) (by assumption) ?_; rotate_left; (focus (intro wS hSw; (try dsimp only at hSw); go_simp; (try with_reducible rfl); done)); (try simp only [Act.put, List.setIfInBounds_toArray, List.set_cons_zero, List.set_cons_succ]))
  (refine wpAnyH_take (i := 17) (oi := _) (v := ?_) rfl (by kernel_rfl) (by kernel_rfl) (by kernel_rfl) (fun _ _ _ h => h) (Or.inl ⟨by rfl, ?_⟩) (by assumption) ?_; rotate_left; (focus (intro wS hSw; (try dsimp only at hSw); go_simp; (try with_reducible rfl); done)); (try simp only [Act.put, List.setIfInBounds_toArray, List.set_cons_zero, List.set_cons_succ]))
  refine wpAnyH_ready (rs := [6]) (by kernel_rfl) (by simp) ?_
  refine AllReadyH.cons (o := _) rfl (fun K hK => ?_) AllReadyH.nil
  go_simp
  refine (pick_any w.heap.size R (p2) (s.whr.length + 1) _ (by ((repeat (first | with_reducible assumption | with_reducible refine Rdr.drew ?_ | with_reducible refine Rdr.drewN ?_ _ | with_reducible refine Rdr.alloc ?_ _ | with_reducible refine Rdr.other ?_ _ _ ?_ ?_ | omega)); done)) (by omega) (by omega) (by omega)).mono ?_
  rintro e w3 ⟨r3, rfl, a3, b3, hR3, hg3⟩
  have b3' := b3 (by omega)
  clear b3
  replace hR3 := hR3.to (p' := p2 + 1) (by omega)
  have hz3 := hg3.size
  (try simp at hz3)
  have hlt3 := hR3.lt
  have ne3 : w3.heap.size ≠ R := by omega
  replace L0 := Loc.carry L0 (fun h => by ((repeat (first | with_reducible exact h | with_reducible refine Loc.drew ?_ | with_reducible refine Loc.drewN ?_ _ | with_reducible refine Loc.alloc ?_ _)); done)) hg3 (by omega)
  replace LS := Loc.carry LS (fun h => by ((repeat (first | with_reducible exact h | with_reducible refine Loc.drew ?_ | with_reducible refine Loc.drewN ?_ _ | with_reducible refine Loc.alloc ?_ _)); done)) hg3 (by omega)
  have HO3 : Hid (SharedOwn w1.heap.size w3 w2.heap.size [.slice Ay s.whr.length cy, .slice Ay' s.cps.length cy'] s) := Lib.hid (SharedOwn.grown1 (by repeat (first | with_reducible exact HOC.out | with_reducible refine SharedOwn.drew ?_ | with_reducible refine SharedOwn.drewN ?_ _ | with_reducible refine SharedOwn.alloc ?_ _ | (with_reducible refine SharedOwn.below ?_ (by assumption)) | ((with_reducible refine SharedOwn.other ?_ ?_ _); rotate_left; (focus (first | omega | (simp; omega) | (simp; done)))))) hg3 hRB)
  have HB3 : Hid (Below w.heap.size w w3) := Lib.hid (below_of_grown (by repeat (first | with_reducible exact HBC.out | with_reducible exact Below.refl _ _ | with_reducible refine below_drewN ?_ _ | with_reducible refine Below.drew ?_ | with_reducible refine Below.alloc ?_ ?_ _ | with_reducible refine Below.setCell ?_ ?_ _ | (with_reducible refine Below.next ?_ (by assumption)) | ((with_reducible refine Below.far' (by assumption) ?_ ?_ ?_); (focus (first | omega | (simp; omega) | (simp; done))); (focus (first | omega | (simp; omega) | (simp; done)))) | omega | (focus (simp; omega)) | (focus (simp; done)))) hg3 (by first | omega | (simp; omega)) (by omega))
  try replace LL := Loc.carry LL (fun h => by ((repeat (first | with_reducible exact h | with_reducible refine Loc.drew ?_ | with_reducible refine Loc.drewN ?_ _ | with_reducible refine Loc.alloc ?_ _)); done)) hg3 (by omega)
  clear hg3 HOC HBC
  have HOC := HO3
  have HBC := HB3
  clear HO3 HB3
  obtain ⟨x0_3, x1_3, xf_3⟩ := LS.two
  have zS_3 := LS.lt
  have z0_3 := L0.lt
  obtain ⟨v0_3, v1_3, vf_3⟩ := L0.two
  go_wp2_with fail
  refine hK.out _ _ ?_ (fun hHeld => ?_)
  focus (exact ⟨x0_3, x1_3⟩)
  clear hK K
  try simp only [Act.put, List.setIfInBounds_toArray, List.set_cons_zero, List.set_cons_succ]
  refine wpAnyH_ready (rs := [8]) (by kernel_rfl) (by simp) ?_
  refine AllReadyH.cons (o := _) rfl (fun K hK => ?_) AllReadyH.nil
  go_simp
  refine (pick_any w.heap.size R (p2 + 1) (12) _ (by ((repeat (first | with_reducible assumption | with_reducible refine Rdr.drew ?_ | with_reducible refine Rdr.drewN ?_ _ | with_reducible refine Rdr.alloc ?_ _ | with_reducible refine Rdr.other ?_ _ _ ?_ ?_ | omega)); done)) (by omega) (by omega) (by omega)).mono ?_
  rintro e w4 ⟨r4, rfl, a4, b4, hR4, hg4⟩
  have b4' := b4 (by omega)
  clear b4
  replace hR4 := hR4.to (p' := p2 + 1 + 1) (by omega)
  have hz4 := hg4.size
  (try simp at hz4)
  have hlt4 := hR4.lt
  have ne4 : w4.heap.size ≠ R := by omega
  replace L0 := Loc.carry L0 (fun h => by ((repeat (first | with_reducible exact h | with_reducible refine Loc.drew ?_ | with_reducible refine Loc.drewN ?_ _ | with_reducible refine Loc.alloc ?_ _)); done)) hg4 (by omega)
  replace LS := Loc.carry LS (fun h => by ((repeat (first | with_reducible exact h | with_reducible refine Loc.drew ?_ | with_reducible refine Loc.drewN ?_ _ | with_reducible refine Loc.alloc ?_ _)); done)) hg4 (by omega)
  have HO4 : Hid (SharedOwn w1.heap.size w4 w2.heap.size [.slice Ay s.whr.length cy, .slice Ay' s.cps.length cy'] s) := Lib.hid (SharedOwn.grown1 (by repeat (first | with_reducible exact HOC.out | with_reducible refine SharedOwn.drew ?_ | with_reducible refine SharedOwn.drewN ?_ _ | with_reducible refine SharedOwn.alloc ?_ _ | (with_reducible refine SharedOwn.below ?_ (by assumption)) | ((with_reducible refine SharedOwn.other ?_ ?_ _); rotate_left; (focus (first | omega | (simp; omega) | (simp; done)))))) hg4 hRB)
  have HB4 : Hid (Below w.heap.size w w4) := Lib.hid (below_of_grown (by repeat (first | with_reducible exact HBC.out | with_reducible exact Below.refl _ _ | with_reducible refine below_drewN ?_ _ | with_reducible refine Below.drew ?_ | with_reducible refine Below.alloc ?_ ?_ _ | with_reducible refine Below.setCell ?_ ?_ _ | (with_reducible refine Below.next ?_ (by assumption)) | ((with_reducible refine Below.far' (by assumption) ?_ ?_ ?_); (focus (first | omega | (simp; omega) | (simp; done))); (focus (first | omega | (simp; omega) | (simp; done)))) | omega | (focus (simp; omega)) | (focus (simp; done)))) hg4 (by first | omega | (simp; omega)) (by omega))
  try replace LL := Loc.carry LL (fun h => by ((repeat (first | with_reducible exact h | with_reducible refine Loc.drew ?_ | with_reducible refine Loc.drewN ?_ _ | with_reducible refine Loc.alloc ?_ _)); done)) hg4 (by omega)
  clear hg4 HOC HBC
  have HOC := HO4
  have HBC := HB4
  clear HO4 HB4
  obtain ⟨x0_4, x1_4, xf_4⟩ := LS.two
  have zS_4 := LS.lt
  have z0_4 := L0.lt
  obtain ⟨v0_4, v1_4, vf_4⟩ := L0.two
  go_wp2_with fail
  refine hK.out _ _ ?_ (fun hHeld => ?_)
  focus (exact ⟨x0_4, x1_4⟩)
  clear hK K
  try simp only [Act.put, List.setIfInBounds_toArray, List.set_cons_zero, List.set_cons_succ]
  (refine wpAnyH_take (i := 9) (oi := _) (v := ?_) rfl (by kernel_rfl) (by kernel_rfl) (by kernel_rfl) (fun _ _ _ h => h) (Or.inl ⟨by rfl, ?_⟩) (by assumption) ?_; rotate_left; (focus (intro wS hSw; (try dsimp only at hSw); go_simp; (try with_reducible rfl); done)); (try simp only [Act.put, List.setIfInBounds_toArray, List.set_cons_zero, List.set_cons_succ]))
  (refine wpAnyH_take (i := 10) (oi := _) (v := ?_) rfl (by kernel_rfl) (by kernel_rfl) (by kernel_rfl) (fun _ _ _ h => h) (Or.inl ⟨by rfl, ?_⟩) (by assumption) ?_; rotate_left; (focus (intro wS hSw; (try dsimp only at hSw); go_simp; (try with_reducible rfl); done)); (try simp only [Act.put, List.setIfInBounds_toArray, List.set_cons_zero, List.set_cons_succ]))
  refine wpAnyH_ready (rs := [12]) (by kernel_rfl) (by simp) ?_
  refine AllReadyH.cons (o := _) rfl (fun K hK => ?_) AllReadyH.nil
  go_simp
  refine (pick_any w.heap.size R (p2 + 1 + 1) (4) _ (by ((repeat (first | with_reducible assumption | with_reducible refine Rdr.drew ?_ | with_reducible refine Rdr.drewN ?_ _ | with_reducible refine Rdr.alloc ?_ _ | with_reducible refine Rdr.other ?_ _ _ ?_ ?_ | omega)); done)) (by omega) (by omega) (by omega)).mono ?_
  rintro e w5 ⟨r5, rfl, a5, b5, hR5, hg5⟩
  have b5' := b5 (by omega)
  clear b5
  replace hR5 := hR5.to (p' := p2 + 1 + 1 + 1) (by omega)
  have hz5 := hg5.size
  (try simp at hz5)
  have hlt5 := hR5.lt
  have ne5 : w5.heap.size ≠ R := by omega
  replace L0 := Loc.carry L0 (fun h => by ((repeat (first | with_reducible exact h | with_reducible refine Loc.drew ?_ | with_reducible refine Loc.drewN ?_ _ | with_reducible refine Loc.alloc ?_ _)); done)) hg5 (by omega)
  replace LS := Loc.carry LS (fun h => by ((repeat (first | with_reducible exact h | with_reducible refine Loc.drew ?_ | with_reducible refine Loc.drewN ?_ _ | with_reducible refine Loc.alloc ?_ _)); done)) hg5 (by omega)
  have HO5 : Hid (SharedOwn w1.heap.size w5 w2.heap.size [.slice Ay s.whr.length cy, .slice Ay' s.cps.length cy'] s) := Lib.hid (SharedOwn.grown1 (by repeat (first | with_reducible exact HOC.out | with_reducible refine SharedOwn.drew ?_ | with_reducible refine SharedOwn.drewN ?_ _ | with_reducible refine SharedOwn.alloc ?_ _ | (with_reducible refine SharedOwn.below ?_ (by assumption)) | ((with_reducible refine SharedOwn.other ?_ ?_ _); rotate_left; (focus (first | omega | (simp; omega) | (simp; done)))))) hg5 hRB)
  have HB5 : Hid (Below w.heap.size w w5) := Lib.hid (below_of_grown (by repeat (first | with_reducible exact HBC.out | with_reducible exact Below.refl _ _ | with_reducible refine below_drewN ?_ _ | with_reducible refine Below.drew ?_ | with_reducible refine Below.alloc ?_ ?_ _ | with_reducible refine Below.setCell ?_ ?_ _ | (with_reducible refine Below.next ?_ (by assumption)) | ((with_reducible refine Below.far' (by assumption) ?_ ?_ ?_); (focus (first | omega | (simp; omega) | (simp; done))); (focus (first | omega | (simp; omega) | (simp; done)))) | omega | (focus (simp; omega)) | (focus (simp; done)))) hg5 (by first | omega | (simp; omega)) (by omega))
  try replace LL := Loc.carry LL (fun h => by ((repeat (first | with_reducible exact h | with_reducible refine Loc.drew ?_ | with_reducible refine Loc.drewN ?_ _ | with_reducible refine Loc.alloc ?_ _)); done)) hg5 (by omega)
  clear hg5 HOC HBC
  have HOC := HO5
  have HBC := HB5
  clear HO5 HB5
  obtain ⟨x0_5, x1_5, xf_5⟩ := LS.two
  have zS_5 := LS.lt
  have z0_5 := L0.lt
  obtain ⟨v0_5, v1_5, vf_5⟩ := L0.two
  go_wp2_with fail
  refine hK.out _ _ ?_ (fun hHeld => ?_)
  focus (exact ⟨x0_5, x1_5⟩)
  clear hK K
  try simp only [Act.put, List.setIfInBounds_toArray, List.set_cons_zero, List.set_cons_succ]
  refine wpAnyH_ready (rs := [14]) (by kernel_rfl) (by simp) ?_
  refine AllReadyH.cons (o := _) rfl (fun K hK => ?_) AllReadyH.nil
  go_simp
  refine (pick_any w.heap.size R (p2 + 1 + 1 + 1) (258) _ (by ((repeat (first | with_reducible assumption | with_reducible refine Rdr.drew ?_ | with_reducible refine Rdr.drewN ?_ _ | with_reducible refine Rdr.alloc ?_ _ | with_reducible refine Rdr.other ?_ _ _ ?_ ?_ | omega)); done)) (by omega) (by omega) (by omega)).mono ?_
  rintro e w6 ⟨r6, rfl, a6, b6, hR6, hg6⟩
  have b6' := b6 (by omega)
  clear b6
  replace hR6 := hR6.to (p' := p2 + 1 + 1 + 1 + 1) (by omega)
  have hz6 := hg6.size
  (try simp at hz6)
  have hlt6 := hR6.lt
  have ne6 : w6.heap.size ≠ R := by omega
  replace L0 := Loc.carry L0 (fun h => by ((repeat (first | with_reducible exact h | with_reducible refine Loc.drew ?_ | with_reducible refine Loc.drewN ?_ _ | with_reducible refine Loc.alloc ?_ _)); done)) hg6 (by omega)
  replace LS := Loc.carry LS (fun h => by ((repeat (first | with_reducible exact h | with_reducible refine Loc.drew ?_ | with_reducible refine Loc.drewN ?_ _ | with_reducible refine Loc.alloc ?_ _)); done)) hg6 (by omega)
  have HO6 : Hid (SharedOwn w1.heap.size w6 w2.heap.size [.slice Ay s.whr.length cy, .slice Ay' s.cps.length cy'] s) := Lib.hid (SharedOwn.grown1 (by repeat (first | with_reducible exact HOC.out | with_reducible refine SharedOwn.drew ?_ | with_reducible refine SharedOwn.drewN ?_ _ | with_reducible refine SharedOwn.alloc ?_ _ | (with_reducible refine SharedOwn.below ?_ (by assumption)) | ((with_reducible refine SharedOwn.other ?_ ?_ _); rotate_left; (focus (first | omega | (simp; omega) | (simp; done)))))) hg6 hRB)
  have HB6 : Hid (Below w.heap.size w w6) := Lib.hid (below_of_grown (by repeat (first | with_reducible exact HBC.out | with_reducible exact Below.refl _ _ | with_reducible refine below_drewN ?_ _ | with_reducible refine Below.drew ?_ | with_reducible refine Below.alloc ?_ ?_ _ | with_reducible refine Below.setCell ?_ ?_ _ | (with_reducible refine Below.next ?_ (by assumption)) | ((with_reducible refine Below.far' (by assumption) ?_ ?_ ?_); (focus (first | omega | (simp; omega) | (simp; done))); (focus (first | omega | (simp; omega) | (simp; done)))) | omega | (focus (simp; omega)) | (focus (simp; done)))) hg6 (by first | omega | (simp; omega)) (by omega))
  try replace LL := Loc.carry LL (fun h => by ((repeat (first | with_reducible exact h | with_reducible refine Loc.drew ?_ | with_reducible refine Loc.drewN ?_ _ | with_reducible refine Loc.alloc ?_ _)); done)) hg6 (by omega)
  clear hg6 HOC HBC
  have HOC := HO6
  have HBC := HB6
  clear HO6 HB6
  obtain ⟨x0_6, x1_6, xf_6⟩ := LS.two
  have zS_6 := LS.lt
  have z0_6 := L0.lt
  obtain ⟨v0_6, v1_6, vf_6⟩ := L0.two
  go_wp2_with fail
  refine hK.out _ _ ?_ (fun hHeld => ?_)
  focus (exact ⟨x0_6, x1_6⟩)
  clear hK K
  try simp only [Act.put, List.setIfInBounds_toArray, List.set_cons_zero, List.set_cons_succ]
  have hw2 := IntWalk.i64_in (r6 - 1) (by omega)
  (refine wpAnyH_take (i := 15) (oi := _) (v := ?_) rfl (by kernel_rfl) (by kernel_rfl) (by kernel_rfl) (fun _ _ _ h => h) (Or.inl ⟨by rfl, ?_⟩) (by assumption) ?_; rotate_left; (focus (intro wS hSw; (try dsimp only at hSw); go_simp; (try with_reducible rfl); done)); (try simp only [Act.put, List.setIfInBounds_toArray, List.set_cons_zero, List.set_cons_succ]))
  refine wpAnyH_ready (rs := [16, 18]) (by kernel_rfl) (by simp) ?_
  refine AllReadyH.cons (o := _) rfl (fun K hK => ?_) (AllReadyH.cons (o := _) rfl (fun K hK => ?_) AllReadyH.nil)
  · go_simp
    refine hK.out _ _ ?_ (fun hHeld => ?_)
    focus ((refine ⟨?_, ?_⟩ <;> (simp [go_sem, *]; done)))
    clear hK K
    try simp only [Act.put, List.setIfInBounds_toArray, List.set_cons_zero, List.set_cons_succ]
    have LL := Loc.newAt w6 [.int .i64 r5, .int .i64 (r6 - 1)] 3 (b := w6.heap.size) rfl
    refine wpAnyH_ready (rs := [18]) (by kernel_rfl) (by simp) ?_
    refine AllReadyH.cons (o := _) rfl (fun K hK => ?_) AllReadyH.nil
    go_simp
    refine (pick_any w.heap.size R (p2 + 1 + 1 + 1 + 1) (2) _ (by ((repeat (first | with_reducible assumption | with_reducible refine Rdr.drew ?_ | with_reducible refine Rdr.drewN ?_ _ | with_reducible refine Rdr.alloc ?_ _ | with_reducible refine Rdr.other ?_ _ _ ?_ ?_ | omega)); done)) (by omega) (by omega) (by omega)).mono ?_
    rintro e w7 ⟨r7, rfl, a7, b7, hR7, hg7⟩
    have b7' := b7 (by omega)
    clear b7
    replace hR7 := hR7.to (p' := p2 + 1 + 1 + 1 + 1 + 1) (by omega)
    have hz7 := hg7.size
    (try simp at hz7)
    have hlt7 := hR7.lt
    have ne7 : w7.heap.size ≠ R := by omega
    replace L0 := Loc.carry L0 (fun h => by ((repeat (first | with_reducible exact h | with_reducible refine Loc.drew ?_ | with_reducible refine Loc.drewN ?_ _ | with_reducible refine Loc.alloc ?_ _)); done)) hg7 (by omega)
    replace LS := Loc.carry LS (fun h => by ((repeat (first | with_reducible exact h | with_reducible refine Loc.drew ?_ | with_reducible refine Loc.drewN ?_ _ | with_reducible refine Loc.alloc ?_ _)); done)) hg7 (by omega)
    have HO7 : Hid (SharedOwn w1.heap.size w7 w2.heap.size [.slice Ay s.whr.length cy, .slice Ay' s.cps.length cy'] s) := Lib.hid (SharedOwn.grown1 (by repeat (first | with_reducible exact HOC.out | with_reducible refine SharedOwn.drew ?_ | with_reducible refine SharedOwn.drewN ?_ _ | with_reducible refine SharedOwn.alloc ?_ _ | (with_reducible refine SharedOwn.below ?_ (by assumption)) | ((with_reducible refine SharedOwn.other ?_ ?_ _); rotate_left; (focus (first | omega | (simp; omega) | (simp; done)))))) hg7 hRB)
    have HB7 : Hid (Below w.heap.size w w7) := Lib.hid (below_of_grown (by repeat (first | with_reducible exact HBC.out | with_reducible exact Below.refl _ _ | with_reducible refine below_drewN ?_ _ | with_reducible refine Below.drew ?_ | with_reducible refine Below.alloc ?_ ?_ _ | with_reducible refine Below.setCell ?_ ?_ _ | (with_reducible refine Below.next ?_ (by assumption)) | ((with_reducible refine Below.far' (by assumption) ?_ ?_ ?_); (focus (first | omega | (simp; omega) | (simp; done))); (focus (first | omega | (simp; omega) | (simp; done)))) | omega | (focus (simp; omega)) | (focus (simp; done)))) hg7 (by first | omega | (simp; omega)) (by omega))
    try replace LL := Loc.carry LL (fun h => by ((repeat (first | with_reducible exact h | with_reducible refine Loc.drew ?_ | with_reducible refine Loc.drewN ?_ _ | with_reducible refine Loc.alloc ?_ _)); done)) hg7 (by omega)
    clear hg7 HOC HBC
    have HOC := HO7
    have HBC := HB7
    clear HO7 HB7
    obtain ⟨x0_7, x1_7, xf_7⟩ := LS.two
    have zS_7 := LS.lt
    have z0_7 := L0.lt
    obtain ⟨v0_7, v1_7, vf_7⟩ := L0.two
    go_wp2_with fail
    refine hK.out _ _ ?_ (fun hHeld => ?_)
    focus (exact ⟨x0_7, x1_7⟩)
    clear hK K
    try simp only [Act.put, List.setIfInBounds_toArray, List.set_cons_zero, List.set_cons_succ]
    obtain ⟨x, -, hcx⟩ := Loc.at_int (l := [r5, r6 - 1]) (Loc.lits _ LL rfl) r7 a7 (by simp; omega)
    have zL := LL.lt
    have hLw : w6.heap.size ≠ w.heap.size := by omega
    (refine wpAnyH_take (i := 19) (oi := _) (v := ?_) rfl (by kernel_rfl) (by kernel_rfl) (by kernel_rfl) (fun _ _ _ h => h) (Or.inl ⟨by rfl, ?_⟩) (by assumption) ?_; rotate_left; (focus (intro wS hSw; (try dsimp only at hSw); go_simp; (try with_reducible rfl); done)); (try simp only [Act.put, List.setIfInBounds_toArray, List.set_cons_zero, List.set_cons_succ]))
    refine wpAnyH_ready (rs := [20, 21]) (by kernel_rfl) (by simp) ?_
    refine AllReadyH.cons (o := _) rfl (fun K hK => ?_) (AllReadyH.cons (o := _) rfl (fun K hK => ?_) AllReadyH.nil)
    · go_simp
      refine hK.out _ _ ?_ (fun hHeld => ?_)
      focus (first | assumption | exact ⟨x0_7, x1_7⟩ | (refine ⟨?_, ?_⟩ <;> (simp [go_sem, *]; done)))
      clear hK K
      try simp only [Act.put, List.setIfInBounds_toArray, List.set_cons_zero, List.set_cons_succ]
      refine wpAnyH_ready (rs := [21]) (by kernel_rfl) (by simp) ?_
      refine AllReadyH.cons (o := _) rfl (fun K hK => ?_) AllReadyH.nil
      go_simp
      refine hK.out _ _ ?_ (fun hHeld => ?_)
      focus ((refine ⟨?_, ?_⟩ <;> (simp [go_sem, *]; done)))
      clear hK K
      try simp only [Act.put, List.setIfInBounds_toArray, List.set_cons_zero, List.set_cons_succ]
      (refine wpAnyH_take (i := 22) (oi := _) (v := ?_) rfl (by kernel_rfl) (by kernel_rfl) (by kernel_rfl) (fun _ _ _ h => h) (Or.inl ⟨by rfl, ?_⟩) (by assumption) ?_; rotate_left; (focus (intro wS hSw; (try dsimp only at hSw); go_simp; (try with_reducible rfl); done)); (try simp only [Act.put, List.setIfInBounds_toArray, List.set_cons_zero, List.set_cons_succ]))
      (refine wpAnyH_take (i := 23) (oi := _) (v := ?_) rfl (by kernel_rfl) (by kernel_rfl) (by kernel_rfl) (fun _ _ _ h => h) (Or.inl ⟨by rfl, ?_⟩) (by assumption) ?_; rotate_left; (focus (intro wS hSw; (try dsimp only at hSw); go_simp; (try with_reducible rfl); done)); (try simp only [Act.put, List.setIfInBounds_toArray, List.set_cons_zero, List.set_cons_succ]))
      refine wpAnyH_done (by kernel_rfl) ?_ _
      refine NoPanic.normal ?_
      try simp only [List.getElem_toArray, List.getElem_cons_succ, List.getElem_cons_zero, Act.put, List.setIfInBounds_toArray, List.set_cons_zero, List.set_cons_succ]
      go_wp2
      clear hcx
      refine bodyPost_ret (v := .tuple #[.agg #[.slice Ay s.whr.length cy, .slice Ay' s.cps.length cy'], .int .i64 (IntKind.i64.wrap (r3 - IntKind.i64.wrap (r4.tdiv 11))), .int .i64 x]) (by simp [results, Try.results33, go_sem, *]; done) rfl ?_
      exact ⟨_, _, s, _, _, rfl, SharedOwn.mono (B := w1.heap.size) (C := w2.heap.size) (by repeat (first | with_reducible exact HOC.out | with_reducible refine SharedOwn.drew ?_ | with_reducible refine SharedOwn.drewN ?_ _ | with_reducible refine SharedOwn.alloc ?_ _ | (with_reducible refine SharedOwn.below ?_ (by assumption)) | ((with_reducible refine SharedOwn.other ?_ ?_ _); rotate_left; (focus (first | omega | (simp; omega) | (simp; done)))))) (by omega) (by first | omega | (simp; omega) | (simp; done)), hsz, (by repeat (first | with_reducible exact HBC.out | with_reducible exact Below.refl _ _ | with_reducible refine below_drewN ?_ _ | with_reducible refine Below.drew ?_ | with_reducible refine Below.alloc ?_ ?_ _ | with_reducible refine Below.setCell ?_ ?_ _ | (with_reducible refine Below.next ?_ (by assumption)) | ((with_reducible refine Below.far' (by assumption) ?_ ?_ ?_); (focus (first | omega | (simp; omega) | (simp; done))); (focus (first | omega | (simp; omega) | (simp; done)))) | omega | (focus (simp; omega)) | (focus (simp; done))))⟩
    · go_simp
      refine hK.out _ _ ?_ (fun hHeld => ?_)
      focus ((refine ⟨?_, ?_⟩ <;> (simp [go_sem, *]; done)))
      clear hK K
      try simp only [Act.put, List.setIfInBounds_toArray, List.set_cons_zero, List.set_cons_succ]
      (refine wpAnyH_take (i := 22) (oi := _) (v := ?_) rfl (by kernel_rfl) (by kernel_rfl) (by kernel_rfl) (fun _ _ _ h => h) (Or.inl ⟨by rfl, ?_⟩) (by assumption) ?_; rotate_left; (focus (intro wS hSw; (try dsimp only at hSw); go_simp; (try with_reducible rfl); done)); (try simp only [Act.put, List.setIfInBounds_toArray, List.set_cons_zero, List.set_cons_succ]))
      refine wpAnyH_ready (rs := [20]) (by kernel_rfl) (by simp) ?_
      refine AllReadyH.cons (o := _) rfl (fun K hK => ?_) AllReadyH.nil
      go_simp
      refine hK.out _ _ ?_ (fun hHeld => ?_)
      focus ((refine ⟨?_, ?_⟩ <;> (simp [go_sem, *]; done)))
      clear hK K
      try simp only [Act.put, List.setIfInBounds_toArray, List.set_cons_zero, List.set_cons_succ]
      (refine wpAnyH_take (i := 23) (oi := _) (v := ?_) rfl (by kernel_rfl) (by kernel_rfl) (by kernel_rfl) (fun _ _ _ h => h) (Or.inl ⟨by rfl, ?_⟩) (by assumption) ?_; rotate_left; (focus (intro wS hSw; (try dsimp only at hSw); go_simp; (try with_reducible rfl); done)); (try simp only [Act.put, List.setIfInBounds_toArray, List.set_cons_zero, List.set_cons_succ]))
      refine wpAnyH_done (by kernel_rfl) ?_ _
      refine NoPanic.normal ?_
      try simp only [List.getElem_toArray, List.getElem_cons_succ, List.getElem_cons_zero, Act.put, List.setIfInBounds_toArray, List.set_cons_zero, List.set_cons_succ]
      go_wp2
      clear hcx
      refine bodyPost_ret (v := .tuple #[.agg #[.slice Ay s.whr.length cy, .slice Ay' s.cps.length cy'], .int .i64 (IntKind.i64.wrap (r3 - IntKind.i64.wrap (r4.tdiv 11))), .int .i64 x]) (by simp [results, Try.results33, go_sem, *]; done) rfl ?_
      exact ⟨_, _, s, _, _, rfl, SharedOwn.mono (B := w1.heap.size) (C := w2.heap.size) (by repeat (first | with_reducible exact HOC.out | with_reducible refine SharedOwn.drew ?_ | with_reducible refine SharedOwn.drewN ?_ _ | with_reducible refine SharedOwn.alloc ?_ _ | (with_reducible refine SharedOwn.below ?_ (by assumption)) | ((with_reducible refine SharedOwn.other ?_ ?_ _); rotate_left; (focus (first | omega | (simp; omega) | (simp; done)))))) (by omega) (by first | omega | (simp; omega) | (simp; done)), hsz, (by repeat (first | with_reducible exact HBC.out | with_reducible exact Below.refl _ _ | with_reducible refine below_drewN ?_ _ | with_reducible refine Below.drew ?_ | with_reducible refine Below.alloc ?_ ?_ _ | with_reducible refine Below.setCell ?_ ?_ _ | (with_reducible refine Below.next ?_ (by assumption)) | ((with_reducible refine Below.far' (by assumption) ?_ ?_ ?_); (focus (first | omega | (simp; omega) | (simp; done))); (focus (first | omega | (simp; omega) | (simp; done)))) | omega | (focus (simp; omega)) | (focus (simp; done))))⟩
  · go_simp
    refine (pick_any w.heap.size R (p2 + 1 + 1 + 1 + 1) 2 _ (by ((repeat (first | with_reducible assumption | with_reducible refine Rdr.drew ?_ | with_reducible refine Rdr.drewN ?_ _ | with_reducible refine Rdr.alloc ?_ _ | with_reducible refine Rdr.other ?_ _ _ ?_ ?_ | omega)); done)) (by omega) (by omega) (by omega)).mono ?_
    rintro e w7 ⟨r7, rfl, a7, b7, hR7, hg7⟩
    have b7' := b7 (by omega)
    clear b7
    replace hR7 := hR7.to (p' := p2 + 1 + 1 + 1 + 1 + 1) (by omega)
    have hz7 := hg7.size
    (try simp at hz7)
    have hlt7 := hR7.lt
    have ne7 : w7.heap.size ≠ R := by omega
    replace L0 := Loc.carry L0 (fun h => by ((repeat (first | with_reducible exact h | with_reducible refine Loc.drew ?_ | with_reducible refine Loc.drewN ?_ _ | with_reducible refine Loc.alloc ?_ _)); done)) hg7 (by omega)
    replace LS := Loc.carry LS (fun h => by ((repeat (first | with_reducible exact h | with_reducible refine Loc.drew ?_ | with_reducible refine Loc.drewN ?_ _ | with_reducible refine Loc.alloc ?_ _)); done)) hg7 (by omega)
    have HO7 : Hid (SharedOwn w1.heap.size w7 w2.heap.size [.slice Ay s.whr.length cy, .slice Ay' s.cps.length cy'] s) := Lib.hid (SharedOwn.grown1 (by repeat (first | with_reducible exact HOC.out | with_reducible refine SharedOwn.drew ?_ | with_reducible refine SharedOwn.drewN ?_ _ | with_reducible refine SharedOwn.alloc ?_ _ | (with_reducible refine SharedOwn.below ?_ (by assumption)) | ((with_reducible refine SharedOwn.other ?_ ?_ _); rotate_left; (focus (first | omega | (simp; omega) | (simp; done)))))) hg7 hRB)
    have HB7 : Hid (Below w.heap.size w w7) := Lib.hid (below_of_grown (by repeat (first | with_reducible exact HBC.out | with_reducible exact Below.refl _ _ | with_reducible refine below_drewN ?_ _ | with_reducible refine Below.drew ?_ | with_reducible refine Below.alloc ?_ ?_ _ | with_reducible refine Below.setCell ?_ ?_ _ | (with_reducible refine Below.next ?_ (by assumption)) | ((with_reducible refine Below.far' (by assumption) ?_ ?_ ?_); (focus (first | omega | (simp; omega) | (simp; done))); (focus (first | omega | (simp; omega) | (simp; done)))) | omega | (focus (simp; omega)) | (focus (simp; done)))) hg7 (by first | omega | (simp; omega)) (by omega))
    clear hg7 HOC HBC
    have HOC := HO7
    have HBC := HB7
    clear HO7 HB7
    obtain ⟨x0_7, x1_7, xf_7⟩ := LS.two
    have zS_7 := LS.lt
    have z0_7 := L0.lt
    obtain ⟨v0_7, v1_7, vf_7⟩ := L0.two
    go_wp2_with fail
    refine hK.out _ _ ?_ (fun hHeld => ?_)
    focus (exact ⟨x0_7, x1_7⟩)
    clear hK K
    try simp only [Act.put, List.setIfInBounds_toArray, List.set_cons_zero, List.set_cons_succ]
    have LL := Loc.newAt w7 [.int .i64 r5, .int .i64 (r6 - 1)] 3 (b := w7.heap.size) rfl
    obtain ⟨x, hLx, hpx⟩ := lit_two [r5, r6 - 1] r7 a7 (by simp; omega)
    have hcx := hLx _ _ (Loc.lits _ LL rfl)
    have HLX := Lib.hid hLx
    simp only [List.map_cons, List.map_nil] at hpx
    clear hLx
    have hLw : w7.heap.size ≠ w.heap.size := by omega
    have hLw2 : w.heap.size ≠ w7.heap.size := by omega
    refine wpAnyH_ready (rs := [16, 21]) (by kernel_rfl) (by simp) ?_
    refine AllReadyH.cons (o := _) rfl (fun K hK => ?_) (AllReadyH.cons (o := _) rfl (fun K hK => ?_) AllReadyH.nil)
    · go_simp
      refine hK.out _ _ ?_ (fun hHeld => ?_)
      focus ((refine ⟨?_, ?_⟩ <;> (simp [go_sem, *]; done)))
      clear hK K
      try simp only [Act.put, List.setIfInBounds_toArray, List.set_cons_zero, List.set_cons_succ]
      (refine wpAnyH_take (i := 19) (oi := _) (v := ?_) rfl (by kernel_rfl) (by kernel_rfl) (by kernel_rfl) (fun _ _ _ h => h) (Or.inl ⟨by rfl, ?_⟩) (by assumption) ?_; rotate_left; (focus (intro wS hSw; (try dsimp only at hSw); go_simp; (try with_reducible rfl); done)); (try simp only [Act.put, List.setIfInBounds_toArray, List.set_cons_zero, List.set_cons_succ]))
      refine wpAnyH_ready (rs := [20, 21]) (by kernel_rfl) (by simp) ?_
      refine AllReadyH.cons (o := _) rfl (fun K hK => ?_) (AllReadyH.cons (o := _) rfl (fun K hK => ?_) AllReadyH.nil)
      · go_simp
        refine hK.out _ _ ?_ (fun hHeld => ?_)
        focus (first | assumption | exact ⟨x0_7, x1_7⟩ | (refine ⟨?_, ?_⟩ <;> (simp [go_sem, *]; done)))
        clear hK K
        try simp only [Act.put, List.setIfInBounds_toArray, List.set_cons_zero, List.set_cons_succ]
        refine wpAnyH_ready (rs := [21]) (by kernel_rfl) (by simp) ?_
        refine AllReadyH.cons (o := _) rfl (fun K hK => ?_) AllReadyH.nil
        go_simp
        refine hK.out _ _ ?_ (fun hHeld => ?_)
        focus ((refine ⟨?_, ?_⟩ <;> (simp [go_sem, *]; done)))
        clear hK K
        try simp only [Act.put, List.setIfInBounds_toArray, List.set_cons_zero, List.set_cons_succ]
        (refine wpAnyH_take (i := 22) (oi := _) (v := ?_) rfl (by kernel_rfl) (by kernel_rfl) (by kernel_rfl) (fun _ _ _ h => h) (Or.inl ⟨by rfl, ?_⟩) (by assumption) ?_; rotate_left; (focus (intro wS hSw; (try dsimp only at hSw); go_simp; (try with_reducible rfl); done)); (try simp only [Act.put, List.setIfInBounds_toArray, List.set_cons_zero, List.set_cons_succ]))
        (refine wpAnyH_take (i := 23) (oi := _) (v := ?_) rfl (by kernel_rfl) (by kernel_rfl) (by kernel_rfl) (fun _ _ _ h => h) (Or.inl ⟨by rfl, ?_⟩) (by assumption) ?_; rotate_left; (focus (intro wS hSw; (try dsimp only at hSw); go_simp; (try with_reducible rfl); done)); (try simp only [Act.put, List.setIfInBounds_toArray, List.set_cons_zero, List.set_cons_succ]))
        refine wpAnyH_done (by kernel_rfl) ?_ _
        refine NoPanic.normal ?_
        try simp only [List.getElem_toArray, List.getElem_cons_succ, List.getElem_cons_zero, Act.put, List.setIfInBounds_toArray, List.set_cons_zero, List.set_cons_succ]
        go_wp2
        clear hcx
        refine bodyPost_ret (v := .tuple #[.agg #[.slice Ay s.whr.length cy, .slice Ay' s.cps.length cy'], .int .i64 (IntKind.i64.wrap (r3 - IntKind.i64.wrap (r4.tdiv 11))), .int .i64 x]) (by simp [results, Try.results33, go_sem, *]; done) rfl ?_
        exact ⟨_, _, s, _, _, rfl, SharedOwn.mono (B := w1.heap.size) (C := w2.heap.size) (by repeat (first | with_reducible exact HOC.out | with_reducible refine SharedOwn.drew ?_ | with_reducible refine SharedOwn.drewN ?_ _ | with_reducible refine SharedOwn.alloc ?_ _ | (with_reducible refine SharedOwn.below ?_ (by assumption)) | ((with_reducible refine SharedOwn.other ?_ ?_ _); rotate_left; (focus (first | omega | (simp; omega) | (simp; done)))))) (by omega) (by first | omega | (simp; omega) | (simp; done)), hsz, (by repeat (first | with_reducible exact HBC.out | with_reducible exact Below.refl _ _ | with_reducible refine below_drewN ?_ _ | with_reducible refine Below.drew ?_ | with_reducible refine Below.alloc ?_ ?_ _ | with_reducible refine Below.setCell ?_ ?_ _ | (with_reducible refine Below.next ?_ (by assumption)) | ((with_reducible refine Below.far' (by assumption) ?_ ?_ ?_); (focus (first | omega | (simp; omega) | (simp; done))); (focus (first | omega | (simp; omega) | (simp; done)))) | omega | (focus (simp; omega)) | (focus (simp; done))))⟩
      · go_simp
        refine hK.out _ _ ?_ (fun hHeld => ?_)
        focus ((refine ⟨?_, ?_⟩ <;> (simp [go_sem, *]; done)))
        clear hK K
        try simp only [Act.put, List.setIfInBounds_toArray, List.set_cons_zero, List.set_cons_succ]
        (refine wpAnyH_take (i := 22) (oi := _) (v := ?_) rfl (by kernel_rfl) (by kernel_rfl) (by kernel_rfl) (fun _ _ _ h => h) (Or.inl ⟨by rfl, ?_⟩) (by assumption) ?_; rotate_left; (focus (intro wS hSw; (try dsimp only at hSw); go_simp; (try with_reducible rfl); done)); (try simp only [Act.put, List.setIfInBounds_toArray, List.set_cons_zero, List.set_cons_succ]))
        refine wpAnyH_ready (rs := [20]) (by kernel_rfl) (by simp) ?_
        refine AllReadyH.cons (o := _) rfl (fun K hK => ?_) AllReadyH.nil
        go_simp
        refine hK.out _ _ ?_ (fun hHeld => ?_)
        focus ((refine ⟨?_, ?_⟩ <;> (simp [go_sem, *]; done)))
        clear hK K
        try simp only [Act.put, List.setIfInBounds_toArray, List.set_cons_zero, List.set_cons_succ]
        (refine wpAnyH_take (i := 23) (oi := _) (v := ?_) rfl (by kernel_rfl) (by kernel_rfl) (by kernel_rfl) (fun _ _ _ h => h) (Or.inl ⟨by rfl, ?_⟩) (by assumption) ?_; rotate_left; (focus (intro wS hSw; (try dsimp only at hSw); go_simp; (try with_reducible rfl); done)); (try simp only [Act.put, List.setIfInBounds_toArray, List.set_cons_zero, List.set_cons_succ]))
        refine wpAnyH_done (by kernel_rfl) ?_ _
        refine NoPanic.normal ?_
        try simp only [List.getElem_toArray, List.getElem_cons_succ, List.getElem_cons_zero, Act.put, List.setIfInBounds_toArray, List.set_cons_zero, List.set_cons_succ]
        go_wp2
        clear hcx
        refine bodyPost_ret (v := .tuple #[.agg #[.slice Ay s.whr.length cy, .slice Ay' s.cps.length cy'], .int .i64 (IntKind.i64.wrap (r3 - IntKind.i64.wrap (r4.tdiv 11))), .int .i64 x]) (by simp [results, Try.results33, go_sem, *]; done) rfl ?_
        exact ⟨_, _, s, _, _, rfl, SharedOwn.mono (B := w1.heap.size) (C := w2.heap.size) (by repeat (first | with_reducible exact HOC.out | with_reducible refine SharedOwn.drew ?_ | with_reducible refine SharedOwn.drewN ?_ _ | with_reducible refine SharedOwn.alloc ?_ _ | (with_reducible refine SharedOwn.below ?_ (by assumption)) | ((with_reducible refine SharedOwn.other ?_ ?_ _); rotate_left; (focus (first | omega | (simp; omega) | (simp; done)))))) (by omega) (by first | omega | (simp; omega) | (simp; done)), hsz, (by repeat (first | with_reducible exact HBC.out | with_reducible exact Below.refl _ _ | with_reducible refine below_drewN ?_ _ | with_reducible refine Below.drew ?_ | with_reducible refine Below.alloc ?_ ?_ _ | with_reducible refine Below.setCell ?_ ?_ _ | (with_reducible refine Below.next ?_ (by assumption)) | ((with_reducible refine Below.far' (by assumption) ?_ ?_ ?_); (focus (first | omega | (simp; omega) | (simp; done))); (focus (first | omega | (simp; omega) | (simp; done)))) | omega | (focus (simp; omega)) | (focus (simp; done))))⟩
    · go_simp
      refine hK.out _ _ ?_ (fun hHeld => ?_)
      focus ((refine ⟨?_, ?_⟩ <;> (simp [go_sem, *]; done)))
      clear hK K
      try simp only [Act.put, List.setIfInBounds_toArray, List.set_cons_zero, List.set_cons_succ]
      (refine wpAnyH_take (i := 22) (oi := _) (v := ?_) rfl (by kernel_rfl) (by kernel_rfl) (by kernel_rfl) (fun _ _ _ h => h) (Or.inl ⟨by rfl, ?_⟩) (by assumption) ?_; rotate_left; (focus (intro wS hSw; (try dsimp only at hSw); go_simp; (try with_reducible rfl); done)); (try simp only [Act.put, List.setIfInBounds_toArray, List.set_cons_zero, List.set_cons_succ]))
      refine wpAnyH_ready (rs := [16]) (by kernel_rfl) (by simp) ?_
      refine AllReadyH.cons (o := _) rfl (fun K hK => ?_) AllReadyH.nil
      go_simp
      refine hK.out _ _ ?_ (fun hHeld => ?_)
      focus ((refine ⟨?_, ?_⟩ <;> (simp [go_sem, *]; done)))
      clear hK K
      try simp only [Act.put, List.setIfInBounds_toArray, List.set_cons_zero, List.set_cons_succ]
      have LL2 := Loc.newAt ((w7.setCell ⟨w.heap.size, 0, none⟩ (.slice Ay s.whr.length cy)).setCell ⟨w.heap.size, 1, none⟩ (.slice Ay' s.cps.length cy')) [.int .i64 r5, .int .i64 (r6 - 1)] 3 (b := w7.heap.size) (by simp)
      clear hcx
      have hcx := HLX.out _ _ (Loc.lits _ LL2 rfl)
      (refine wpAnyH_take (i := 19) (oi := _) (v := ?_) rfl (by kernel_rfl) (by kernel_rfl) (by kernel_rfl) (fun _ _ _ h => h) (Or.inl ⟨by rfl, ?_⟩) (by assumption) ?_; rotate_left; (focus (intro wS hSw; (try dsimp only at hSw); go_simp; (try with_reducible rfl); done)); (try simp only [Act.put, List.setIfInBounds_toArray, List.set_cons_zero, List.set_cons_succ]))
      refine wpAnyH_ready (rs := [20]) (by kernel_rfl) (by simp) ?_
      refine AllReadyH.cons (o := _) rfl (fun K hK => ?_) AllReadyH.nil
      go_simp
      refine hK.out _ _ ?_ (fun hHeld => ?_)
      focus ((first | (refine ⟨?_, ?_⟩ <;> assumption) | (refine ⟨?_, ?_⟩ <;> (simp [go_sem, *]; done))))
      clear hK K
      try simp only [Act.put, List.setIfInBounds_toArray, List.set_cons_zero, List.set_cons_succ]
      (refine wpAnyH_take (i := 23) (oi := _) (v := ?_) rfl (by kernel_rfl) (by kernel_rfl) (by kernel_rfl) (fun _ _ _ h => h) (Or.inl ⟨by rfl, ?_⟩) (by assumption) ?_; rotate_left; (focus (intro wS hSw; (try dsimp only at hSw); go_simp; (try with_reducible rfl); done)); (try simp only [Act.put, List.setIfInBounds_toArray, List.set_cons_zero, List.set_cons_succ]))
      refine wpAnyH_done (by kernel_rfl) ?_ _
      refine NoPanic.normal ?_
      try simp only [List.getElem_toArray, List.getElem_cons_succ, List.getElem_cons_zero, Act.put, List.setIfInBounds_toArray, List.set_cons_zero, List.set_cons_succ]
      go_wp2
      clear hcx
      refine bodyPost_ret (v := .tuple #[.agg #[.slice Ay s.whr.length cy, .slice Ay' s.cps.length cy'], .int .i64 (IntKind.i64.wrap (r3 - IntKind.i64.wrap (r4.tdiv 11))), .int .i64 x]) (by simp [results, Try.results33, go_sem, *]; done) rfl ?_
      exact ⟨_, _, s, _, _, rfl, SharedOwn.mono (B := w1.heap.size) (C := w2.heap.size) (by repeat (first | with_reducible exact HOC.out | with_reducible refine SharedOwn.drew ?_ | with_reducible refine SharedOwn.drewN ?_ _ | with_reducible refine SharedOwn.alloc ?_ _ | (with_reducible refine SharedOwn.below ?_ (by assumption)) | ((with_reducible refine SharedOwn.other ?_ ?_ _); rotate_left; (focus (first | omega | (simp; omega) | (simp; done)))))) (by omega) (by first | omega | (simp; omega) | (simp; done)), hsz, (by repeat (first | with_reducible exact HBC.out | with_reducible exact Below.refl _ _ | with_reducible refine below_drewN ?_ _ | with_reducible refine Below.drew ?_ | with_reducible refine Below.alloc ?_ ?_ _ | with_reducible refine Below.setCell ?_ ?_ _ | (with_reducible refine Below.next ?_ (by assumption)) | ((with_reducible refine Below.far' (by assumption) ?_ ?_ ?_); (focus (first | omega | (simp; omega) | (simp; done))); (focus (first | omega | (simp; omega) | (simp; done)))) | omega | (focus (simp; omega)) | (focus (simp; done))))⟩
end Go.Proofs.Ytpekccmhfkeadaa
