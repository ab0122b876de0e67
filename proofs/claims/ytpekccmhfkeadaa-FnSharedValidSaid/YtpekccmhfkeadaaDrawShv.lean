/-
  What the draws of a shared volume give to the laws. Conditions: the count of draws stays below 10^9.
-/
import Derived.Test.YtpekccmhfkeadaaBase
import Derived.Test.YtpekccmhfkeadaaNum
import Derived.Test.YtpekccmhfkeadaaInts
import Derived.Test.YtpekccmhfkeadaaApp
import Derived.Test.YtpekccmhfkeadaaIntsW
import Derived.Test.YtpekccmhfkeadaaLib
import Derived.Test.YtpekccmhfkeadaaSpares
import Derived.Test.YtpekccmhfkeadaaOwn
import Derived.Test.YtpekccmhfkeadaaCopy
import Derived.Test.YtpekccmhfkeadaaShared
import Derived.Test.YtpekccmhfkeadaaSharedM
import Derived.Test.YtpekccmhfkeadaaSharedC
import Derived.Test.YtpekccmhfkeadaaSharedV
import Derived.Test.YtpekccmhfkeadaaSharedU
import Derived.Test.YtpekccmhfkeadaaSharedD
import Derived.Test.YtpekccmhfkeadaaSharedWM
import Derived.Test.YtpekccmhfkeadaaDel
import Derived.Test.YtpekccmhfkeadaaThinC
import Derived.Test.YtpekccmhfkeadaaSharedP
import Derived.Test.YtpekccmhfkeadaaFlashX
import Derived.Test.YtpekccmhfkeadaaSharedPs
import Derived.Test.YtpekccmhfkeadaaDraw
import Derived.Test.YtpekccmhfkeadaaDrawK
import Derived.Test.YtpekccmhfkeadaaDrawD
import Derived.Test.YtpekccmhfkeadaaDrawShd
import Derived.IntWalk
namespace Go.Proofs.Ytpekccmhfkeadaa
open Go.RowKit
def FreshShared (w : World) (e : Ending) (w' : World) : Prop :=
  ∃ y0 y1 s, e = .returned (.agg #[y0, y1]) ∧ SharedOwn w.heap.size w' w'.heap.size [y0, y1] s ∧ sizeShared s ≤ 400 ∧ Below w.heap.size w w'
set_option maxHeartbeats 1000000 in
theorem drawShVal_any (A : Option Addr) (c : Nat) (l : List Int) (w : World) (hl : l.length ≤ c) (hm : c ≤ maxLen) (hr : Rd eByte w A l) (hb : ∀ x ∈ l, 0 ≤ x ∧ x ≤ 255) :
    Calls Try.prog 29 #[.slice A l.length c] w (FreshShared w) := by
  have HB := Lib.hid hb
  have L0 := Loc.new w [.slice none 0 0, .slice none 0 0] 30
  have hr1 := Lib.hid (Rd.alloc hr (.cells #[.slice none 0 0, .slice none 0 0] 30))
  clear hb
  have hA : Hid (∀ b off, 0 < l.length → A = some ⟨b, off, none⟩ → b < w.heap.size) := Lib.hid fun _ _ h0 hA => hr.lt h0 hA
  go_enter Try.func29, Try.ntmps29
  go_wp2_with fail
  refine (l20Open_any A c l _ hl hm hr1.out HB.out w.heap.size hA.out (by simp)).mono ?_
  rintro e w1 ⟨R, rfl, hR1, hge, hb1⟩
  have L1 := Loc.carryB L0 (fun h => by ((repeat (first | with_reducible exact h | with_reducible refine Loc.drew ?_ | with_reducible refine Loc.drewN ?_ _ | with_reducible refine Loc.alloc ?_ _)); done)) hb1
  have HB1 : Hid (Below w.heap.size w w1) := Lib.hid (Below.next (W := w) (by repeat (first | with_reducible exact Below.refl _ _ | with_reducible refine below_drewN ?_ _ | with_reducible refine Below.drew ?_ | with_reducible refine Below.alloc ?_ ?_ _ | with_reducible refine Below.setCell ?_ ?_ _ | omega | (focus (simp; omega)) | (focus (simp; done)))) hb1)
  have hz1 := hb1.size
  simp at hge hz1
  clear hb1
  go_wp2_with fail
  refine (l20Shared_any w.heap.size R 0 2 _ hR1 (by omega) (by omega) (by omega) (by omega)).mono ?_
  rintro e w2 ⟨y0, y1, s, p2, rfl, hown, hsz, hR2, -, -, hgw⟩
  have L2 := Loc.carry L1 (fun h => by ((repeat (first | with_reducible exact h | with_reducible refine Loc.drew ?_ | with_reducible refine Loc.drewN ?_ _ | with_reducible refine Loc.alloc ?_ _)); done)) hgw (by omega)
  obtain ⟨x0, x1, xf⟩ := L2.two
  have HB2 : Hid (Below w.heap.size w w2) := Lib.hid (below_of_grown HB1.out hgw (by omega) (by omega))
  have hz2 := hgw.size
  obtain ⟨Ay, cy, Ay', cy', rfl, rfl⟩ := sharedRd_lens (SharedOwn.rd hown)
  have HO := Lib.hid hown
  clear hgw hown
  go_wp2
  refine bodyPost_ret (v := .agg #[.slice Ay s.whr.length cy, .slice Ay' s.cps.length cy']) (by simp [results, Try.results29, go_sem, *]; done) rfl ?_
  exact ⟨_, _, s, rfl, SharedOwn.mono (B := w1.heap.size) (C := w2.heap.size) (by repeat (first | with_reducible exact HO.out | with_reducible refine SharedOwn.drew ?_ | with_reducible refine SharedOwn.drewN ?_ _ | with_reducible refine SharedOwn.alloc ?_ _ | (with_reducible refine SharedOwn.below ?_ (by assumption)) | ((with_reducible refine SharedOwn.other ?_ ?_ _); rotate_left; (focus (first | omega | (simp; omega) | (simp; done)))))) (by omega) (by first | omega | (simp; done)), hsz, (by repeat (first | with_reducible exact HB2.out | with_reducible exact Below.refl _ _ | with_reducible refine below_drewN ?_ _ | with_reducible refine Below.drew ?_ | with_reducible refine Below.alloc ?_ ?_ _ | with_reducible refine Below.setCell ?_ ?_ _ | (with_reducible refine Below.next ?_ (by assumption)) | ((with_reducible refine Below.far' (by assumption) ?_ ?_ ?_); (focus (first | omega | (simp; omega) | (simp; done))); (focus (first | omega | (simp; omega) | (simp; done)))) | omega | (focus (simp; omega)) | (focus (simp; done))))⟩
set_option maxHeartbeats 1000000 in
theorem drawShVw_any (A : Option Addr) (c : Nat) (l : List Int) (w : World) (hl : l.length ≤ c) (hm : c ≤ maxLen) (hr : Rd eByte w A l) (hb : ∀ x ∈ l, 0 ≤ x ∧ x ≤ 255) :
    Calls Try.prog 32 #[.slice A l.length c] w (FreshShared w) := by
  have HB := Lib.hid hb
  have L0 := Loc.new w [.slice none 0 0, .slice none 0 0] 30
  have hr1 := Lib.hid (Rd.alloc hr (.cells #[.slice none 0 0, .slice none 0 0] 30))
  clear hb
  have hA : Hid (∀ b off, 0 < l.length → A = some ⟨b, off, none⟩ → b < w.heap.size) := Lib.hid fun _ _ h0 hA => hr.lt h0 hA
  go_enter Try.func32, Try.ntmps32
  go_wp2_with fail
  refine (l20Open_any A c l _ hl hm hr1.out HB.out w.heap.size hA.out (by simp)).mono ?_
  rintro e w1 ⟨R, rfl, hR1, hge, hb1⟩
  have L1 := Loc.carryB L0 (fun h => by ((repeat (first | with_reducible exact h | with_reducible refine Loc.drew ?_ | with_reducible refine Loc.drewN ?_ _ | with_reducible refine Loc.alloc ?_ _)); done)) hb1
  have HB1 : Hid (Below w.heap.size w w1) := Lib.hid (Below.next (W := w) (by repeat (first | with_reducible exact Below.refl _ _ | with_reducible refine below_drewN ?_ _ | with_reducible refine Below.drew ?_ | with_reducible refine Below.alloc ?_ ?_ _ | with_reducible refine Below.setCell ?_ ?_ _ | omega | (focus (simp; omega)) | (focus (simp; done)))) hb1)
  have hz1 := hb1.size
  simp at hge hz1
  clear hb1
  go_wp2_with fail
  refine (l20Shared_any w.heap.size R 0 9 _ hR1 (by omega) (by omega) (by omega) (by omega)).mono ?_
  rintro e w2 ⟨y0, y1, s, p2, rfl, hown, hsz, hR2, -, -, hgw⟩
  have L2 := Loc.carry L1 (fun h => by ((repeat (first | with_reducible exact h | with_reducible refine Loc.drew ?_ | with_reducible refine Loc.drewN ?_ _ | with_reducible refine Loc.alloc ?_ _)); done)) hgw (by omega)
  obtain ⟨x0, x1, xf⟩ := L2.two
  have HB2 : Hid (Below w.heap.size w w2) := Lib.hid (below_of_grown HB1.out hgw (by omega) (by omega))
  have hz2 := hgw.size
  obtain ⟨Ay, cy, Ay', cy', rfl, rfl⟩ := sharedRd_lens (SharedOwn.rd hown)
  have HO := Lib.hid hown
  clear hgw hown
  go_wp2
  refine bodyPost_ret (v := .agg #[.slice Ay s.whr.length cy, .slice Ay' s.cps.length cy']) (by simp [results, Try.results32, go_sem, *]; done) rfl ?_
  exact ⟨_, _, s, rfl, SharedOwn.mono (B := w1.heap.size) (C := w2.heap.size) (by repeat (first | with_reducible exact HO.out | with_reducible refine SharedOwn.drew ?_ | with_reducible refine SharedOwn.drewN ?_ _ | with_reducible refine SharedOwn.alloc ?_ _ | (with_reducible refine SharedOwn.below ?_ (by assumption)) | ((with_reducible refine SharedOwn.other ?_ ?_ _); rotate_left; (focus (first | omega | (simp; omega) | (simp; done)))))) (by omega) (by first | omega | (simp; done)), hsz, (by repeat (first | with_reducible exact HB2.out | with_reducible exact Below.refl _ _ | with_reducible refine below_drewN ?_ _ | with_reducible refine Below.drew ?_ | with_reducible refine Below.alloc ?_ ?_ _ | with_reducible refine Below.setCell ?_ ?_ _ | (with_reducible refine Below.next ?_ (by assumption)) | ((with_reducible refine Below.far' (by assumption) ?_ ?_ ?_); (focus (first | omega | (simp; omega) | (simp; done))); (focus (first | omega | (simp; omega) | (simp; done)))) | omega | (focus (simp; omega)) | (focus (simp; done))))⟩
end Go.Proofs.Ytpekccmhfkeadaa
