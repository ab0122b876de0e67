/-
  The reference's StackSync. Conditions: lengths at most 2^40.
-/
import Derived.Test.YtlhbjfjphckifaaBase
import Derived.Test.YtlhbjfjphckifaaNum
import Derived.Test.YtlhbjfjphckifaaInts
import Derived.Test.YtlhbjfjphckifaaApp
import Derived.Test.YtlhbjfjphckifaaIntsW
import Derived.Test.YtlhbjfjphckifaaLib
import Derived.Test.YtlhbjfjphckifaaSpares
import Derived.Test.YtlhbjfjphckifaaOwn
import Derived.Test.YtlhbjfjphckifaaPart
import Derived.Test.YtlhbjfjphckifaaLine
import Derived.Test.YtlhbjfjphckifaaStack
import Derived.Test.YtlhbjfjphckifaaStackM
import Derived.Test.YtlhbjfjphckifaaStackC
import Derived.Test.YtlhbjfjphckifaaStackF
import Derived.Test.YtlhbjfjphckifaaStackS
import Derived.Test.YtlhbjfjphckifaaStackCp
namespace Go.Proofs.Ytlhbjfjphckifaa
open Go.RowKit
theorem StackOwn.slices {w : World} {B C : Nat} {x0 x1 x2 x3 : Value} {t : Stk} (h : StackOwn B w C [x0, x1, x2, x3] t) : SOwn eInt 3 B w C x0 t.dsk ∧ SOwn encPartS tyPartS B w C x1 t.prt ∧ SOwn encLineS tyLineS B w C x2 t.lns := by
  obtain ⟨u, v, y, h1, h2, h3, h4, _⟩ := h
  simp only [List.cons.injEq, and_true] at h1
  obtain ⟨rfl, rfl, rfl, _⟩ := h1
  exact ⟨h2, h3, h4⟩
set_option maxHeartbeats 4000000 in
theorem specSync_c (x0 x1 x2 x3 : Value) (t : Stk) (w : World) (h : StackRd w [x0, x1, x2, x3] t) (hs : sizeStack t ≤ 1099511627776) :
    Calls Try.prog 18 #[.agg #[x0, x1, x2, x3]] w (MadeStack (syncS t) w) := by
  obtain ⟨A0, c0, A1, c1, A2, c2, e0, e1, e2, e3⟩ := id h.mst
  subst e0 e1 e2 e3
  have HR := Lib.hid h
  have L0 := Loc.new w [.slice A0 t.dsk.length c0, .slice A1 t.prt.length c1, .slice A2 t.lns.length c2, .int .i64 t.mst] 35
  have L1 := Loc.newAt (w.alloc (.cells #[.slice A0 t.dsk.length c0, .slice A1 t.prt.length c1, .slice A2 t.lns.length c2, .int .i64 t.mst] 35)) [.slice none 0 0, .slice none 0 0, .slice none 0 0, .int .i64 0] 35 (b := w.heap.size + 1) (by simp)
  cases hv : stackB t
  · have HV := Lib.hid hv
    have HN := Lib.hid (sync_no hv)
    clear hv
    go_enter Try.func18, Try.ntmps18
    go_wp2_with fail
    refine (specStack_c _ _ _ _ t _ (StackRd.below HR.out (by repeat (first | with_reducible exact Below.refl _ _ | with_reducible refine below_drewN ?_ _ | with_reducible refine Below.drew ?_ | with_reducible refine Below.alloc ?_ ?_ _ | with_reducible refine Below.setCell ?_ ?_ _ | omega | (focus (simp; omega)) | (focus (simp; done))))) hs).mono ?_
    rw [HV.out]
    rintro e w1 ⟨rfl, hb1⟩
    have M1 := Loc.carryB L1 (fun h => by ((repeat (first | with_reducible exact h | with_reducible refine Loc.drew ?_ | with_reducible refine Loc.drewN ?_ _ | with_reducible refine Loc.alloc ?_ _)); done)) hb1
    obtain ⟨m0, m1, m2, m3, mf⟩ := M1.four
    go_wp2
    refine bodyPost_ret (v := .agg #[.slice none 0 0, .slice none 0 0, .slice none 0 0, .int .i64 0]) (by simp [results, Try.results18, go_sem, *]; done) rfl ⟨_, _, _, _, rfl, ?_, ?_⟩
    · rw [HN.out]; exact stackOwn_zero _ _ _
    · exact (by repeat (first | with_reducible exact Below.refl _ _ | with_reducible assumption | with_reducible refine below_drewN ?_ _ | with_reducible refine Below.drew ?_ | with_reducible refine Below.alloc ?_ ?_ _ | with_reducible refine Below.setCell ?_ ?_ _ | (with_reducible refine Below.next ?_ (by assumption)) | omega | (focus (simp; omega)) | (focus (simp; done))))
  have HV := Lib.hid hv
  have HN := Lib.hid (sync_yes hv)
  have hcb := (stack_true.1 hv).2.2
  have hdb := (stack_true.1 hv).1
  clear hv
  have hs' := hs
  unfold sizeStack at hs'
  go_enter Try.func18, Try.ntmps18
  go_wp2_with fail
  refine (specStack_c _ _ _ _ t _ (StackRd.below HR.out (by repeat (first | with_reducible exact Below.refl _ _ | with_reducible refine below_drewN ?_ _ | with_reducible refine Below.drew ?_ | with_reducible refine Below.alloc ?_ ?_ _ | with_reducible refine Below.setCell ?_ ?_ _ | omega | (focus (simp; omega)) | (focus (simp; done))))) hs).mono ?_
  rw [HV.out]
  rintro e w1 ⟨rfl, hb1⟩
  have M0 := Loc.carryB L0 (fun h => by ((repeat (first | with_reducible exact h | with_reducible refine Loc.drew ?_ | with_reducible refine Loc.drewN ?_ _ | with_reducible refine Loc.alloc ?_ _)); done)) hb1
  have M1 := Loc.carryB L1 (fun h => by ((repeat (first | with_reducible exact h | with_reducible refine Loc.drew ?_ | with_reducible refine Loc.drewN ?_ _ | with_reducible refine Loc.alloc ?_ _)); done)) hb1
  obtain ⟨k0, k1, k2, k3, kf⟩ := M0.four
  have W1 : Hid (Below w.heap.size w w1) := Lib.hid (Below.next (W := w) (by repeat (first | with_reducible exact Below.refl _ _ | with_reducible refine below_drewN ?_ _ | with_reducible refine Below.drew ?_ | with_reducible refine Below.alloc ?_ ?_ _ | with_reducible refine Below.setCell ?_ ?_ _ | omega | (focus (simp; omega)) | (focus (simp; done)))) hb1)
  have HR1 := Lib.hid (StackRd.below HR.out W1.out)
  have zM1 := M1.lt
  have hz1 := hb1.size
  (try simp at hz1)
  clear hb1
  go_wp2_with fail
  refine (copyStack_c _ _ _ _ t _ HR1.out hs).mono ?_
  rintro e w2 ⟨y0, y1, y2, y3, rfl, oc, hb2⟩
  obtain ⟨B0, d0, B1, d1, B2, d2, e0, e1, e2, e3⟩ := id oc.rd.mst
  subst e0 e1 e2 e3
  have N1 := Loc.carryB M1 (fun h => by ((repeat (first | with_reducible exact h | with_reducible refine Loc.drew ?_ | with_reducible refine Loc.drewN ?_ _ | with_reducible refine Loc.alloc ?_ _)); done)) hb2
  have W2 : Hid (Below w.heap.size w w2) := Lib.hid (Below.next (W := w) W1.out hb2)
  have LX := Loc.newAt w2 [.slice B0 t.dsk.length d0, .slice B1 t.prt.length d1, .slice B2 t.lns.length d2, .int .i64 t.mst] 35 (b := w2.heap.size) rfl
  have hz2 := hb2.size
  have zN1 := N1.lt
  have OC := Lib.hid oc
  clear hb2 oc k0 k1 k2 k3 kf
  obtain ⟨k0, k1, k2, k3, kf⟩ := LX.four
  go_wp2_with fail
  refine (specFlush_c _ _ t.lns t.mst t.dsk _ (SRd.below OC.out.slices.2.2.rd (by repeat (first | with_reducible exact Below.refl _ _ | with_reducible refine below_drewN ?_ _ | with_reducible refine Below.drew ?_ | with_reducible refine Below.alloc ?_ ?_ _ | with_reducible refine Below.setCell ?_ ?_ _ | omega | (focus (simp; omega)) | (focus (simp; done))))) (SRd.below OC.out.slices.1.rd (by repeat (first | with_reducible exact Below.refl _ _ | with_reducible refine below_drewN ?_ _ | with_reducible refine Below.drew ?_ | with_reducible refine Below.alloc ?_ ?_ _ | with_reducible refine Below.setCell ?_ ?_ _ | omega | (focus (simp; omega)) | (focus (simp; done))))) hdb hcb).mono ?_
  rintro e w3 ⟨y, u, rfl, oy, ou, hap, hb3⟩
  obtain ⟨Ay, cy, gy, rfl, -, -⟩ := id oy
  obtain ⟨Au, cu, gu, rfl, -, -⟩ := id ou
  have P1 := Loc.carryB N1 (fun h => by ((repeat (first | with_reducible exact h | with_reducible refine Loc.drew ?_ | with_reducible refine Loc.drewN ?_ _ | with_reducible refine Loc.alloc ?_ _)); done)) hb3
  have PX := Loc.carryB LX (fun h => by ((repeat (first | with_reducible exact h | with_reducible refine Loc.drew ?_ | with_reducible refine Loc.drewN ?_ _ | with_reducible refine Loc.alloc ?_ _)); done)) hb3
  have W3 : Hid (Below w.heap.size w w3) := Lib.hid (Below.next (W := w) (by repeat (first | with_reducible exact W2.out | with_reducible exact Below.refl _ _ | with_reducible refine below_drewN ?_ _ | with_reducible refine Below.drew ?_ | with_reducible refine Below.alloc ?_ ?_ _ | with_reducible refine Below.setCell ?_ ?_ _ | (with_reducible refine Below.next ?_ (by assumption)) | ((with_reducible refine Below.far' (by assumption) ?_ ?_ ?_); (focus (first | omega | (simp; omega) | (simp; done))); (focus (first | omega | (simp; omega) | (simp; done)))) | omega | (focus (simp; omega)) | (focus (simp; done)))) hb3)
  have OP : Hid (SOwn encPartS tyPartS w1.heap.size w3 w2.heap.size (.slice B1 t.prt.length d1) t.prt) := Lib.hid (SOwn.below OC.out.slices.2.1 (Below.next (W := w2) (by repeat (first | with_reducible exact Below.refl _ _ | with_reducible refine below_drewN ?_ _ | with_reducible refine Below.drew ?_ | with_reducible refine Below.alloc ?_ ?_ _ | with_reducible refine Below.setCell ?_ ?_ _ | omega | (focus (simp; omega)) | (focus (simp; done)))) hb3))
  have LC := Loc.newAt w3 [.slice Ay (cleanL t.lns).length cy, .int .i64 t.mst] 33 (b := w3.heap.size) rfl
  obtain ⟨lc0, lc1, lcf⟩ := LC.two
  have hz3 := hb3.size
  (try simp at hz3)
  have zP1 := P1.lt
  have zPX := PX.lt
  have OY : Hid (SOwn encLineS tyLineS (w2.heap.size + 1) w3 w3.heap.size (.slice Ay (cleanL t.lns).length cy) (cleanL t.lns)) := Lib.hid (SOwn.mono oy (by simp) (Nat.le_refl _))
  have OU : Hid (SOwn eInt 3 (w2.heap.size + 1) w3 w3.heap.size (.slice Au (flushD t.dsk t.lns).length cu) (flushD t.dsk t.lns)) := Lib.hid (SOwn.mono ou (by simp) (Nat.le_refl _))
  have HAP := Lib.hid hap
  clear hb3 oy ou hap k0 k1 k2 k3 kf
  obtain ⟨k0, k1, k2, k3, kf⟩ := PX.four
  obtain ⟨q0, q1, q2, q3, qf⟩ := P1.four
  go_wp2
  refine bodyPost_ret (v := .agg #[.slice Au (flushD t.dsk t.lns).length cu, .slice B1 t.prt.length d1, .slice Ay (cleanL t.lns).length cy, .int .i64 t.mst]) (by simp [results, Try.results18, go_sem, *]; done) rfl ⟨_, _, _, _, rfl, ?_, ?_⟩
  · rw [HN.out]
    exact stackOwn_of (B1 := w2.heap.size + 1) (C1 := w3.heap.size) (B2 := w1.heap.size) (C2 := w2.heap.size) rfl (by repeat (first | with_reducible exact OU.out | with_reducible refine SOwn.drew ?_ | with_reducible refine SOwn.drewN ?_ _ | with_reducible refine SOwn.alloc ?_ _ | (with_reducible refine SOwn.below ?_ (by assumption)) | ((with_reducible refine SOwn.other ?_ ?_ _); rotate_left; (focus (first | omega | (simp; omega) | (simp; done)))))) (by repeat (first | with_reducible exact OP.out | with_reducible refine SOwn.drew ?_ | with_reducible refine SOwn.drewN ?_ _ | with_reducible refine SOwn.alloc ?_ _ | (with_reducible refine SOwn.below ?_ (by assumption)) | ((with_reducible refine SOwn.other ?_ ?_ _); rotate_left; (focus (first | omega | (simp; omega) | (simp; done)))))) (by repeat (first | with_reducible exact OY.out | with_reducible refine SOwn.drew ?_ | with_reducible refine SOwn.drewN ?_ _ | with_reducible refine SOwn.alloc ?_ _ | (with_reducible refine SOwn.below ?_ (by assumption)) | ((with_reducible refine SOwn.other ?_ ?_ _); rotate_left; (focus (first | omega | (simp; omega) | (simp; done)))))) HAP.out (by omega) ⟨by omega, by omega⟩ ⟨by simp, by simp; omega⟩
  · exact (by repeat (first | with_reducible exact W3.out | with_reducible exact Below.refl _ _ | with_reducible refine below_drewN ?_ _ | with_reducible refine Below.drew ?_ | with_reducible refine Below.alloc ?_ ?_ _ | with_reducible refine Below.setCell ?_ ?_ _ | (with_reducible refine Below.next ?_ (by assumption)) | ((with_reducible refine Below.far' (by assumption) ?_ ?_ ?_); (focus (first | omega | (simp; omega) | (simp; done))); (focus (first | omega | (simp; omega) | (simp; done)))) | omega | (focus (simp; omega)) | (focus (simp; done))))
end Go.Proofs.Ytlhbjfjphckifaa
