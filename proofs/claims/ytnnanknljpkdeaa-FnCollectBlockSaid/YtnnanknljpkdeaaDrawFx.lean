/-
  What the draws for the laws of flash memories give. Conditions: the count of draws stays below 10^9.
-/
import Derived.Test.YtnnanknljpkdeaaBase
import Derived.Test.YtnnanknljpkdeaaNum
import Derived.Test.YtnnanknljpkdeaaInts
import Derived.Test.YtnnanknljpkdeaaApp
import Derived.Test.YtnnanknljpkdeaaIntsW
import Derived.Test.YtnnanknljpkdeaaLib
import Derived.Test.YtnnanknljpkdeaaSpares
import Derived.Test.YtnnanknljpkdeaaOwn
import Derived.Test.YtnnanknljpkdeaaPage
import Derived.Test.YtnnanknljpkdeaaFlash
import Derived.Test.YtnnanknljpkdeaaFlashM
import Derived.Test.YtnnanknljpkdeaaFlashC
import Derived.Test.YtnnanknljpkdeaaFlashD
import Derived.Test.YtnnanknljpkdeaaFlashV
import Derived.Test.YtnnanknljpkdeaaThinC
import Derived.Test.YtnnanknljpkdeaaFlashW
import Derived.Test.YtnnanknljpkdeaaFlashN
import Derived.Test.YtnnanknljpkdeaaFlashX
import Derived.Test.YtnnanknljpkdeaaFlashY
import Derived.Test.YtnnanknljpkdeaaFlashZ
import Derived.Test.YtnnanknljpkdeaaFlashCB
import Derived.Test.YtnnanknljpkdeaaFlashWB
import Derived.Test.YtnnanknljpkdeaaFlashP
import Derived.Test.YtnnanknljpkdeaaDraw
import Derived.Test.YtnnanknljpkdeaaDrawK
import Derived.Test.YtnnanknljpkdeaaDrawD
import Derived.Test.YtnnanknljpkdeaaNewP
import Derived.Test.YtnnanknljpkdeaaKept
import Derived.Test.YtnnanknljpkdeaaDrawFl
import Derived.IntWalk
namespace Go.Proofs.Ytnnanknljpkdeaa
open Go.RowKit
/-- A drawn flash memory; with two numbers. -/
def FlashOf (w w' : World) (y0 y1 : Value) (f : Fl) : Prop := FlashRd w' [y0, y1] f ∧ (f.pages.length ≤ 16 ∧ f.erases.length ≤ 4) ∧ (∀ x ∈ f.erases, 0 ≤ x ∧ x ≤ 40) ∧ Below w.heap.size w w'
def FreshFlash (w : World) (e : Ending) (w' : World) : Prop := ∃ y0 y1 f, e = .returned (.agg #[y0, y1]) ∧ FlashOf w w' y0 y1 f
def FreshFlashNV (w : World) (e : Ending) (w' : World) : Prop := ∃ y0 y1 f, ∃ n v : Int, e = .returned (.tuple #[.agg #[y0, y1], .int .i64 n, .int .i64 v]) ∧ (-1 ≤ n ∧ n ≤ 100) ∧ (-1 ≤ v ∧ v ≤ 300) ∧ FlashOf w w' y0 y1 f
set_option maxHeartbeats 2000000 in
theorem drawFv_any (A : Option Addr) (c : Nat) (l : List Int) (w : World) (hl : l.length ≤ c) (hm : c ≤ maxLen) (hr : Rd eByte w A l) (hb : ∀ x ∈ l, 0 ≤ x ∧ x ≤ 255) :
    Calls Try.prog 27 #[.slice A l.length c] w (FreshFlash w) := by
  have HB := Lib.hid hb
  have L0 := Loc.new w [.slice none 0 0, .slice none 0 0] 30
  have hr1 := Lib.hid (Rd.alloc hr (.cells #[.slice none 0 0, .slice none 0 0] 30))
  clear hb
  have hA : Hid (∀ b off, 0 < l.length → A = some ⟨b, off, none⟩ → b < w.heap.size) := Lib.hid fun _ _ h0 hA => hr.lt h0 hA
  go_enter Try.func27, Try.ntmps27
  go_wp2_with fail
  refine (l20Open_any A c l _ hl hm hr1.out HB.out w.heap.size hA.out (by simp)).mono ?_
  rintro e w1 ⟨R, rfl, hR1, hge, hb1⟩
  replace L0 := Loc.carryB L0 (fun h => by ((repeat (first | with_reducible exact h | with_reducible refine Loc.drew ?_ | with_reducible refine Loc.drewN ?_ _ | with_reducible refine Loc.alloc ?_ _)); done)) hb1
  have HB1 : Hid (Below w.heap.size w w1) := Lib.hid (Below.next (W := w) (by repeat (first | with_reducible exact Below.refl _ _ | with_reducible refine below_drewN ?_ _ | with_reducible refine Below.drew ?_ | with_reducible refine Below.alloc ?_ ?_ _ | with_reducible refine Below.setCell ?_ ?_ _ | omega | (focus (simp; omega)) | (focus (simp; done)))) hb1)
  have hz1 := hb1.size
  simp at hge hz1
  clear hb1
  go_wp2_with fail
  refine (l20Flash_any w.heap.size R 0 2 _ hR1 (by omega) (by omega) (by omega) (by omega)).mono ?_
  rintro e w2 ⟨y0, y1, f, p2, rfl, hrd, hfp, hfe, hsm, hR2, hp20, hp21, hgw⟩
  replace L0 := Loc.carry L0 (fun h => by ((repeat (first | with_reducible exact h | with_reducible refine Loc.drew ?_ | with_reducible refine Loc.drewN ?_ _ | with_reducible refine Loc.alloc ?_ _)); done)) hgw (by omega)
  have HB2 : Hid (Below w.heap.size w w2) := Lib.hid (below_of_grown HB1.out hgw (by omega) (by omega))
  have hz2 := hgw.size
  obtain ⟨A0, c0, A1, c1, rfl, rfl⟩ := flashRd_lens (hrd w2 (Kept.refl _ _))
  have HSM := Lib.hid hsm
  have HRD := Lib.hid hrd
  have hRB : R < w1.heap.size := hR1.lt
  clear hgw hsm hrd hR1
  have z0 := L0.lt
  obtain ⟨k0, k1, kf⟩ := L0.two
  go_wp2
  refine bodyPost_ret (v := .agg #[.slice A0 f.pages.length c0, .slice A1 f.erases.length c1]) (by simp [results, Try.results27, go_sem, *]; done) rfl ?_
  exact ⟨_, _, f, rfl, HRD.out _ (by repeat (first | with_reducible exact Kept.refl _ _ | with_reducible exact Kept.refl _ _ | with_reducible refine Kept.drew ?_ | with_reducible refine Kept.drewN ?_ _ | ((with_reducible refine Kept.alloc ?_ ?_ _); rotate_left; (focus (first | omega | (simp; omega) | (simp; done)))) | ((with_reducible refine Kept.set ?_ ?_ _); rotate_left; (focus (first | omega | (simp; omega) | (simp; done)))))), ⟨hfp, hfe⟩, HSM.out, (by repeat (first | with_reducible exact HB2.out | with_reducible exact Below.refl _ _ | with_reducible refine below_drewN ?_ _ | with_reducible refine Below.drew ?_ | with_reducible refine Below.alloc ?_ ?_ _ | with_reducible refine Below.setCell ?_ ?_ _ | (with_reducible refine Below.next ?_ (by assumption)) | ((with_reducible refine Below.far' (by assumption) ?_ ?_ ?_); (focus (first | omega | (simp; omega) | (simp; done))); (focus (first | omega | (simp; omega) | (simp; done)))) | omega | (focus (simp; omega)) | (focus (simp; done))))⟩
set_option maxHeartbeats 2000000 in
theorem drawFc_any (A : Option Addr) (c : Nat) (l : List Int) (w : World) (hl : l.length ≤ c) (hm : c ≤ maxLen) (hr : Rd eByte w A l) (hb : ∀ x ∈ l, 0 ≤ x ∧ x ≤ 255) :
    Calls Try.prog 41 #[.slice A l.length c] w (FreshFlash w) := by
  have HB := Lib.hid hb
  have L0 := Loc.new w [.slice none 0 0, .slice none 0 0] 30
  have hr1 := Lib.hid (Rd.alloc hr (.cells #[.slice none 0 0, .slice none 0 0] 30))
  clear hb
  have hA : Hid (∀ b off, 0 < l.length → A = some ⟨b, off, none⟩ → b < w.heap.size) := Lib.hid fun _ _ h0 hA => hr.lt h0 hA
  go_enter Try.func41, Try.ntmps41
  go_wp2_with fail
  refine (l20Open_any A c l _ hl hm hr1.out HB.out w.heap.size hA.out (by simp)).mono ?_
  rintro e w1 ⟨R, rfl, hR1, hge, hb1⟩
  replace L0 := Loc.carryB L0 (fun h => by ((repeat (first | with_reducible exact h | with_reducible refine Loc.drew ?_ | with_reducible refine Loc.drewN ?_ _ | with_reducible refine Loc.alloc ?_ _)); done)) hb1
  have HB1 : Hid (Below w.heap.size w w1) := Lib.hid (Below.next (W := w) (by repeat (first | with_reducible exact Below.refl _ _ | with_reducible refine below_drewN ?_ _ | with_reducible refine Below.drew ?_ | with_reducible refine Below.alloc ?_ ?_ _ | with_reducible refine Below.setCell ?_ ?_ _ | omega | (focus (simp; omega)) | (focus (simp; done)))) hb1)
  have hz1 := hb1.size
  simp at hge hz1
  clear hb1
  go_wp2_with fail
  refine (l20Flash_any w.heap.size R 0 9 _ hR1 (by omega) (by omega) (by omega) (by omega)).mono ?_
  rintro e w2 ⟨y0, y1, f, p2, rfl, hrd, hfp, hfe, hsm, hR2, hp20, hp21, hgw⟩
  replace L0 := Loc.carry L0 (fun h => by ((repeat (first | with_reducible exact h | with_reducible refine Loc.drew ?_ | with_reducible refine Loc.drewN ?_ _ | with_reducible refine Loc.alloc ?_ _)); done)) hgw (by omega)
  have HB2 : Hid (Below w.heap.size w w2) := Lib.hid (below_of_grown HB1.out hgw (by omega) (by omega))
  have hz2 := hgw.size
  obtain ⟨A0, c0, A1, c1, rfl, rfl⟩ := flashRd_lens (hrd w2 (Kept.refl _ _))
  have HSM := Lib.hid hsm
  have HRD := Lib.hid hrd
  have hRB : R < w1.heap.size := hR1.lt
  clear hgw hsm hrd hR1
  have z0 := L0.lt
  obtain ⟨k0, k1, kf⟩ := L0.two
  go_wp2
  refine bodyPost_ret (v := .agg #[.slice A0 f.pages.length c0, .slice A1 f.erases.length c1]) (by simp [results, Try.results41, go_sem, *]; done) rfl ?_
  exact ⟨_, _, f, rfl, HRD.out _ (by repeat (first | with_reducible exact Kept.refl _ _ | with_reducible exact Kept.refl _ _ | with_reducible refine Kept.drew ?_ | with_reducible refine Kept.drewN ?_ _ | ((with_reducible refine Kept.alloc ?_ ?_ _); rotate_left; (focus (first | omega | (simp; omega) | (simp; done)))) | ((with_reducible refine Kept.set ?_ ?_ _); rotate_left; (focus (first | omega | (simp; omega) | (simp; done)))))), ⟨hfp, hfe⟩, HSM.out, (by repeat (first | with_reducible exact HB2.out | with_reducible exact Below.refl _ _ | with_reducible refine below_drewN ?_ _ | with_reducible refine Below.drew ?_ | with_reducible refine Below.alloc ?_ ?_ _ | with_reducible refine Below.setCell ?_ ?_ _ | (with_reducible refine Below.next ?_ (by assumption)) | ((with_reducible refine Below.far' (by assumption) ?_ ?_ ?_); (focus (first | omega | (simp; omega) | (simp; done))); (focus (first | omega | (simp; omega) | (simp; done)))) | omega | (focus (simp; omega)) | (focus (simp; done))))⟩
set_option maxHeartbeats 2000000 in
theorem drawFview_any (A : Option Addr) (c : Nat) (l : List Int) (w : World) (hl : l.length ≤ c) (hm : c ≤ maxLen) (hr : Rd eByte w A l) (hb : ∀ x ∈ l, 0 ≤ x ∧ x ≤ 255) :
    Calls Try.prog 37 #[.slice A l.length c] w (FreshFlash w) := by
  have HB := Lib.hid hb
  have L0 := Loc.new w [.slice none 0 0, .slice none 0 0] 30
  have hr1 := Lib.hid (Rd.alloc hr (.cells #[.slice none 0 0, .slice none 0 0] 30))
  clear hb
  have hA : Hid (∀ b off, 0 < l.length → A = some ⟨b, off, none⟩ → b < w.heap.size) := Lib.hid fun _ _ h0 hA => hr.lt h0 hA
  go_enter Try.func37, Try.ntmps37
  go_wp2_with fail
  refine (l20Open_any A c l _ hl hm hr1.out HB.out w.heap.size hA.out (by simp)).mono ?_
  rintro e w1 ⟨R, rfl, hR1, hge, hb1⟩
  replace L0 := Loc.carryB L0 (fun h => by ((repeat (first | with_reducible exact h | with_reducible refine Loc.drew ?_ | with_reducible refine Loc.drewN ?_ _ | with_reducible refine Loc.alloc ?_ _)); done)) hb1
  have HB1 : Hid (Below w.heap.size w w1) := Lib.hid (Below.next (W := w) (by repeat (first | with_reducible exact Below.refl _ _ | with_reducible refine below_drewN ?_ _ | with_reducible refine Below.drew ?_ | with_reducible refine Below.alloc ?_ ?_ _ | with_reducible refine Below.setCell ?_ ?_ _ | omega | (focus (simp; omega)) | (focus (simp; done)))) hb1)
  have hz1 := hb1.size
  simp at hge hz1
  clear hb1
  go_wp2_with fail
  refine (l20Flash_any w.heap.size R 0 9 _ hR1 (by omega) (by omega) (by omega) (by omega)).mono ?_
  rintro e w2 ⟨y0, y1, f, p2, rfl, hrd, hfp, hfe, hsm, hR2, hp20, hp21, hgw⟩
  replace L0 := Loc.carry L0 (fun h => by ((repeat (first | with_reducible exact h | with_reducible refine Loc.drew ?_ | with_reducible refine Loc.drewN ?_ _ | with_reducible refine Loc.alloc ?_ _)); done)) hgw (by omega)
  have HB2 : Hid (Below w.heap.size w w2) := Lib.hid (below_of_grown HB1.out hgw (by omega) (by omega))
  have hz2 := hgw.size
  obtain ⟨A0, c0, A1, c1, rfl, rfl⟩ := flashRd_lens (hrd w2 (Kept.refl _ _))
  have HSM := Lib.hid hsm
  have HRD := Lib.hid hrd
  have hRB : R < w1.heap.size := hR1.lt
  clear hgw hsm hrd hR1
  have z0 := L0.lt
  obtain ⟨k0, k1, kf⟩ := L0.two
  go_wp2
  refine bodyPost_ret (v := .agg #[.slice A0 f.pages.length c0, .slice A1 f.erases.length c1]) (by simp [results, Try.results37, go_sem, *]; done) rfl ?_
  exact ⟨_, _, f, rfl, HRD.out _ (by repeat (first | with_reducible exact Kept.refl _ _ | with_reducible exact Kept.refl _ _ | with_reducible refine Kept.drew ?_ | with_reducible refine Kept.drewN ?_ _ | ((with_reducible refine Kept.alloc ?_ ?_ _); rotate_left; (focus (first | omega | (simp; omega) | (simp; done)))) | ((with_reducible refine Kept.set ?_ ?_ _); rotate_left; (focus (first | omega | (simp; omega) | (simp; done)))))), ⟨hfp, hfe⟩, HSM.out, (by repeat (first | with_reducible exact HB2.out | with_reducible exact Below.refl _ _ | with_reducible refine below_drewN ?_ _ | with_reducible refine Below.drew ?_ | with_reducible refine Below.alloc ?_ ?_ _ | with_reducible refine Below.setCell ?_ ?_ _ | (with_reducible refine Below.next ?_ (by assumption)) | ((with_reducible refine Below.far' (by assumption) ?_ ?_ ?_); (focus (first | omega | (simp; omega) | (simp; done))); (focus (first | omega | (simp; omega) | (simp; done)))) | omega | (focus (simp; omega)) | (focus (simp; done))))⟩
set_option maxHeartbeats 2000000 in
theorem drawFwear_any (A : Option Addr) (c : Nat) (l : List Int) (w : World) (hl : l.length ≤ c) (hm : c ≤ maxLen) (hr : Rd eByte w A l) (hb : ∀ x ∈ l, 0 ≤ x ∧ x ≤ 255) :
    Calls Try.prog 39 #[.slice A l.length c] w (FreshFlash w) := by
  have HB := Lib.hid hb
  have L0 := Loc.new w [.slice none 0 0, .slice none 0 0] 30
  have hr1 := Lib.hid (Rd.alloc hr (.cells #[.slice none 0 0, .slice none 0 0] 30))
  clear hb
  have hA : Hid (∀ b off, 0 < l.length → A = some ⟨b, off, none⟩ → b < w.heap.size) := Lib.hid fun _ _ h0 hA => hr.lt h0 hA
  go_enter Try.func39, Try.ntmps39
  go_wp2_with fail
  refine (l20Open_any A c l _ hl hm hr1.out HB.out w.heap.size hA.out (by simp)).mono ?_
  rintro e w1 ⟨R, rfl, hR1, hge, hb1⟩
  replace L0 := Loc.carryB L0 (fun h => by ((repeat (first | with_reducible exact h | with_reducible refine Loc.drew ?_ | with_reducible refine Loc.drewN ?_ _ | with_reducible refine Loc.alloc ?_ _)); done)) hb1
  have HB1 : Hid (Below w.heap.size w w1) := Lib.hid (Below.next (W := w) (by repeat (first | with_reducible exact Below.refl _ _ | with_reducible refine below_drewN ?_ _ | with_reducible refine Below.drew ?_ | with_reducible refine Below.alloc ?_ ?_ _ | with_reducible refine Below.setCell ?_ ?_ _ | omega | (focus (simp; omega)) | (focus (simp; done)))) hb1)
  have hz1 := hb1.size
  simp at hge hz1
  clear hb1
  go_wp2_with fail
  refine (l20Flash_any w.heap.size R 0 9 _ hR1 (by omega) (by omega) (by omega) (by omega)).mono ?_
  rintro e w2 ⟨y0, y1, f, p2, rfl, hrd, hfp, hfe, hsm, hR2, hp20, hp21, hgw⟩
  replace L0 := Loc.carry L0 (fun h => by ((repeat (first | with_reducible exact h | with_reducible refine Loc.drew ?_ | with_reducible refine Loc.drewN ?_ _ | with_reducible refine Loc.alloc ?_ _)); done)) hgw (by omega)
  have HB2 : Hid (Below w.heap.size w w2) := Lib.hid (below_of_grown HB1.out hgw (by omega) (by omega))
  have hz2 := hgw.size
  obtain ⟨A0, c0, A1, c1, rfl, rfl⟩ := flashRd_lens (hrd w2 (Kept.refl _ _))
  have HSM := Lib.hid hsm
  have HRD := Lib.hid hrd
  have hRB : R < w1.heap.size := hR1.lt
  clear hgw hsm hrd hR1
  have z0 := L0.lt
  obtain ⟨k0, k1, kf⟩ := L0.two
  go_wp2
  refine bodyPost_ret (v := .agg #[.slice A0 f.pages.length c0, .slice A1 f.erases.length c1]) (by simp [results, Try.results39, go_sem, *]; done) rfl ?_
  exact ⟨_, _, f, rfl, HRD.out _ (by repeat (first | with_reducible exact Kept.refl _ _ | with_reducible exact Kept.refl _ _ | with_reducible refine Kept.drew ?_ | with_reducible refine Kept.drewN ?_ _ | ((with_reducible refine Kept.alloc ?_ ?_ _); rotate_left; (focus (first | omega | (simp; omega) | (simp; done)))) | ((with_reducible refine Kept.set ?_ ?_ _); rotate_left; (focus (first | omega | (simp; omega) | (simp; done)))))), ⟨hfp, hfe⟩, HSM.out, (by repeat (first | with_reducible exact HB2.out | with_reducible exact Below.refl _ _ | with_reducible refine below_drewN ?_ _ | with_reducible refine Below.drew ?_ | with_reducible refine Below.alloc ?_ ?_ _ | with_reducible refine Below.setCell ?_ ?_ _ | (with_reducible refine Below.next ?_ (by assumption)) | ((with_reducible refine Below.far' (by assumption) ?_ ?_ ?_); (focus (first | omega | (simp; omega) | (simp; done))); (focus (first | omega | (simp; omega) | (simp; done)))) | omega | (focus (simp; omega)) | (focus (simp; done))))⟩
set_option maxHeartbeats 4000000 in
theorem drawFwr_any (A : Option Addr) (c : Nat) (l : List Int) (w : World) (hl : l.length ≤ c) (hm : c ≤ maxLen) (hr : Rd eByte w A l) (hb : ∀ x ∈ l, 0 ≤ x ∧ x ≤ 255) :
    Calls Try.prog 43 #[.slice A l.length c] w (FreshFlashNV w) := by
  have HB := Lib.hid hb
  have L0 := Loc.new w [.slice none 0 0, .slice none 0 0] 30
  have hr1 := Lib.hid (Rd.alloc hr (.cells #[.slice none 0 0, .slice none 0 0] 30))
  clear hb
  have hA : Hid (∀ b off, 0 < l.length → A = some ⟨b, off, none⟩ → b < w.heap.size) := Lib.hid fun _ _ h0 hA => hr.lt h0 hA
  go_enter Try.func43, Try.ntmps43
  go_wp2_with fail
  refine (l20Open_any A c l _ hl hm hr1.out HB.out w.heap.size hA.out (by simp)).mono ?_
  rintro e w1 ⟨R, rfl, hR1, hge, hb1⟩
  replace L0 := Loc.carryB L0 (fun h => by ((repeat (first | with_reducible exact h | with_reducible refine Loc.drew ?_ | with_reducible refine Loc.drewN ?_ _ | with_reducible refine Loc.alloc ?_ _)); done)) hb1
  have HB1 : Hid (Below w.heap.size w w1) := Lib.hid (Below.next (W := w) (by repeat (first | with_reducible exact Below.refl _ _ | with_reducible refine below_drewN ?_ _ | with_reducible refine Below.drew ?_ | with_reducible refine Below.alloc ?_ ?_ _ | with_reducible refine Below.setCell ?_ ?_ _ | omega | (focus (simp; omega)) | (focus (simp; done)))) hb1)
  have hz1 := hb1.size
  simp at hge hz1
  clear hb1
  go_wp2_with fail
  refine (l20Flash_any w.heap.size R 0 12 _ hR1 (by omega) (by omega) (by omega) (by omega)).mono ?_
  rintro e w2 ⟨y0, y1, f, p2, rfl, hrd, hfp, hfe, hsm, hR2, hp20, hp21, hgw⟩
  replace L0 := Loc.carry L0 (fun h => by ((repeat (first | with_reducible exact h | with_reducible refine Loc.drew ?_ | with_reducible refine Loc.drewN ?_ _ | with_reducible refine Loc.alloc ?_ _)); done)) hgw (by omega)
  have HB2 : Hid (Below w.heap.size w w2) := Lib.hid (below_of_grown HB1.out hgw (by omega) (by omega))
  have hz2 := hgw.size
  obtain ⟨A0, c0, A1, c1, rfl, rfl⟩ := flashRd_lens (hrd w2 (Kept.refl _ _))
  have HSM := Lib.hid hsm
  have HRD := Lib.hid hrd
  have hRB : R < w1.heap.size := hR1.lt
  clear hgw hsm hrd hR1
  have hwl := IntWalk.i64_in (((f.erases.length : Int) - 1) * 4 + 2) (by omega)
  obtain ⟨M, hM⟩ : ∃ M : Int, (if 1 < ((f.erases.length : Int) - 1) * 4 + 2 then ((f.erases.length : Int) - 1) * 4 + 2 else 1) = M := ⟨_, rfl⟩
  have hM1 : 1 ≤ M := by rw [← hM]; split <;> omega
  have hM2 : M ≤ 14 := by rw [← hM]; split <;> omega
  have LS := Loc.newAt w2 [.slice A0 f.pages.length c0, .slice A1 f.erases.length c1] 30 (b := w2.heap.size) rfl
  have hlt2 := hR2.lt
  obtain ⟨s0, s1, sf⟩ := LS.two
  go_wp2
  go_region_law (first
    | (go_simp; go_at_call 49; (with_reducible refine (l20Logical_any f.erases.length _ (by omega) (by omega)).mono ?_); go_must (rintro e w' ⟨rfl, rfl⟩))
    | (go_simp; go_at_call 65; (with_reducible refine (pick_any w.heap.size R (p2) (M) _ (by ((repeat (first | with_reducible assumption | with_reducible refine Rdr.drew ?_ | with_reducible refine Rdr.drewN ?_ _ | with_reducible refine Rdr.alloc ?_ _ | with_reducible refine Rdr.other ?_ _ _ ?_ ?_ | omega)); done)) (by omega) (by omega) (by omega)).mono ?_); go_must (rintro e w3 ⟨r3, rfl, a3, b3, hR3, hg3⟩; have b3' := b3 (by omega); clear b3; replace hR3 := hR3.to (p' := p2 + 1) (by omega); have L0_3 := Loc.carry L0 (fun h => (by repeat (first | with_reducible exact h | with_reducible refine Loc.drew ?_ | with_reducible refine Loc.drewN ?_ _ | with_reducible refine Loc.alloc ?_ _ | (with_reducible refine Loc.below ?_ (by assumption)) | ((with_reducible refine Loc.other' ?_ ?_ _); (focus (first | omega | (simp; omega) | (simp; done)))) | ((with_reducible refine Loc.far' (by assumption) ?_ ?_); (focus (first | omega | (simp; omega) | (simp; done))))))) hg3 (by omega); have LS_3 := Loc.carry LS (fun h => (by repeat (first | with_reducible exact h | with_reducible refine Loc.drew ?_ | with_reducible refine Loc.drewN ?_ _ | with_reducible refine Loc.alloc ?_ _ | (with_reducible refine Loc.below ?_ (by assumption)) | ((with_reducible refine Loc.other' ?_ ?_ _); (focus (first | omega | (simp; omega) | (simp; done)))) | ((with_reducible refine Loc.far' (by assumption) ?_ ?_); (focus (first | omega | (simp; omega) | (simp; done))))))) hg3 (by omega); obtain ⟨m0_3, m1_3, mf_3⟩ := L0_3.two; obtain ⟨q0_3, q1_3, qf_3⟩ := LS_3.two; have z0_3 := L0_3.lt; have zS_3 := LS_3.lt; have hz3 := hg3.size; (try simp at hz3); have HK3 : Hid (Kept w1.heap.size w2 w3) := Lib.hid (Kept.trans (by repeat (first | with_reducible exact Kept.refl _ _ | with_reducible exact Kept.refl _ _ | with_reducible refine Kept.drew ?_ | with_reducible refine Kept.drewN ?_ _ | ((with_reducible refine Kept.alloc ?_ ?_ _); rotate_left; (focus (first | omega | (simp; omega) | (simp; done)))) | ((with_reducible refine Kept.set ?_ ?_ _); rotate_left; (focus (first | omega | (simp; omega) | (simp; done)))))) (Kept.of_grown hg3 hRB) (by first | omega | (simp; done) | (simp; omega))); have HB3 : Hid (Below w.heap.size w w3) := Lib.hid (below_of_grown (by repeat (first | with_reducible exact HB2.out | with_reducible exact Below.refl _ _ | with_reducible refine below_drewN ?_ _ | with_reducible refine Below.drew ?_ | with_reducible refine Below.alloc ?_ ?_ _ | with_reducible refine Below.setCell ?_ ?_ _ | (with_reducible refine Below.next ?_ (by assumption)) | ((with_reducible refine Below.far' (by assumption) ?_ ?_ ?_); (focus (first | omega | (simp; omega) | (simp; done))); (focus (first | omega | (simp; omega) | (simp; done)))) | omega | (focus (simp; omega)) | (focus (simp; done)))) hg3 (by first | omega | (simp; omega)) (by omega)); have hlt3 := hR3.lt; clear hg3); have hw3 := IntWalk.i64_in (r3 - 1) (by omega))
    | (go_simp; go_at_call 65; (with_reducible refine (pick_any w.heap.size R (p2 + 1) (258) _ (by ((repeat (first | with_reducible assumption | with_reducible refine Rdr.drew ?_ | with_reducible refine Rdr.drewN ?_ _ | with_reducible refine Rdr.alloc ?_ _ | with_reducible refine Rdr.other ?_ _ _ ?_ ?_ | omega)); done)) (by omega) (by omega) (by omega)).mono ?_); go_must (rintro e w4 ⟨r4, rfl, a4, b4, hR4, hg4⟩; have b4' := b4 (by omega); clear b4; replace hR4 := hR4.to (p' := p2 + 1 + 1) (by omega); have L0_4 := Loc.carry L0_3 (fun h => (by repeat (first | with_reducible exact h | with_reducible refine Loc.drew ?_ | with_reducible refine Loc.drewN ?_ _ | with_reducible refine Loc.alloc ?_ _ | (with_reducible refine Loc.below ?_ (by assumption)) | ((with_reducible refine Loc.other' ?_ ?_ _); (focus (first | omega | (simp; omega) | (simp; done)))) | ((with_reducible refine Loc.far' (by assumption) ?_ ?_); (focus (first | omega | (simp; omega) | (simp; done))))))) hg4 (by omega); have LS_4 := Loc.carry LS_3 (fun h => (by repeat (first | with_reducible exact h | with_reducible refine Loc.drew ?_ | with_reducible refine Loc.drewN ?_ _ | with_reducible refine Loc.alloc ?_ _ | (with_reducible refine Loc.below ?_ (by assumption)) | ((with_reducible refine Loc.other' ?_ ?_ _); (focus (first | omega | (simp; omega) | (simp; done)))) | ((with_reducible refine Loc.far' (by assumption) ?_ ?_); (focus (first | omega | (simp; omega) | (simp; done))))))) hg4 (by omega); obtain ⟨m0_4, m1_4, mf_4⟩ := L0_4.two; obtain ⟨q0_4, q1_4, qf_4⟩ := LS_4.two; have z0_4 := L0_4.lt; have zS_4 := LS_4.lt; have hz4 := hg4.size; (try simp at hz4); have HK4 : Hid (Kept w1.heap.size w2 w4) := Lib.hid (Kept.trans (by repeat (first | with_reducible exact HK3.out | with_reducible exact Kept.refl _ _ | with_reducible refine Kept.drew ?_ | with_reducible refine Kept.drewN ?_ _ | ((with_reducible refine Kept.alloc ?_ ?_ _); rotate_left; (focus (first | omega | (simp; omega) | (simp; done)))) | ((with_reducible refine Kept.set ?_ ?_ _); rotate_left; (focus (first | omega | (simp; omega) | (simp; done)))))) (Kept.of_grown hg4 hRB) (by first | omega | (simp; done) | (simp; omega))); have HB4 : Hid (Below w.heap.size w w4) := Lib.hid (below_of_grown (by repeat (first | with_reducible exact HB3.out | with_reducible exact Below.refl _ _ | with_reducible refine below_drewN ?_ _ | with_reducible refine Below.drew ?_ | with_reducible refine Below.alloc ?_ ?_ _ | with_reducible refine Below.setCell ?_ ?_ _ | (with_reducible refine Below.next ?_ (by assumption)) | ((with_reducible refine Below.far' (by assumption) ?_ ?_ ?_); (focus (first | omega | (simp; omega) | (simp; done))); (focus (first | omega | (simp; omega) | (simp; done)))) | omega | (focus (simp; omega)) | (focus (simp; done)))) hg4 (by first | omega | (simp; omega)) (by omega)); have hlt4 := hR4.lt; clear hg4); have hw4 := IntWalk.i64_in (r4 - 1) (by omega)))
  all_goals
    go_wp2
    refine bodyPost_ret (v := .tuple #[.agg #[.slice A0 f.pages.length c0, .slice A1 f.erases.length c1], .int .i64 (r3 - 1), .int .i64 (r4 - 1)]) (by simp [results, Try.results43, go_sem, *]; done) rfl ?_
    exact ⟨_, _, f, r3 - 1, r4 - 1, rfl, ⟨by omega, by omega⟩, ⟨by omega, by omega⟩, HRD.out _ (by repeat (first | with_reducible exact HK4.out | with_reducible exact Kept.refl _ _ | with_reducible refine Kept.drew ?_ | with_reducible refine Kept.drewN ?_ _ | ((with_reducible refine Kept.alloc ?_ ?_ _); rotate_left; (focus (first | omega | (simp; omega) | (simp; done)))) | ((with_reducible refine Kept.set ?_ ?_ _); rotate_left; (focus (first | omega | (simp; omega) | (simp; done)))))), ⟨hfp, hfe⟩, HSM.out, (by repeat (first | with_reducible exact HB4.out | with_reducible exact Below.refl _ _ | with_reducible refine below_drewN ?_ _ | with_reducible refine Below.drew ?_ | with_reducible refine Below.alloc ?_ ?_ _ | with_reducible refine Below.setCell ?_ ?_ _ | (with_reducible refine Below.next ?_ (by assumption)) | ((with_reducible refine Below.far' (by assumption) ?_ ?_ ?_); (focus (first | omega | (simp; omega) | (simp; done))); (focus (first | omega | (simp; omega) | (simp; done)))) | omega | (focus (simp; omega)) | (focus (simp; done))))⟩
end Go.Proofs.Ytnnanknljpkdeaa
