/-
  Crashing a stack. Conditions: lengths at most 2^40.
-/
import Derived.Test.YtlhbjfjphckifaaBase
import Derived.Test.YtlhbjfjphckifaaNum
import Derived.Test.YtlhbjfjphckifaaInts
import Derived.Test.YtlhbjfjphckifaaApp
import Derived.Test.YtlhbjfjphckifaaIntsW
import Derived.Test.YtlhbjfjphckifaaLib
import Derived.Test.YtlhbjfjphckifaaSpares
import Derived.Test.YtlhbjfjphckifaaOwn
import Derived.Test.YtlhbjfjphckifaaPart
import Derived.Test.YtlhbjfjphckifaaLine
import Derived.Test.YtlhbjfjphckifaaStack
import Derived.Test.YtlhbjfjphckifaaStackM
import Derived.Test.YtlhbjfjphckifaaStackC
import Derived.Test.YtlhbjfjphckifaaStackF
import Derived.Test.YtlhbjfjphckifaaStackS
import Derived.Test.YtlhbjfjphckifaaStackCp
import Derived.Test.YtlhbjfjphckifaaStackS2
namespace Go.Proofs.Ytlhbjfjphckifaa
open Go.RowKit
theorem crash_no {t : Stk} (h : stackB t = false) : crashS t = zeroStk := by simp [crashS, h]
theorem crash_yes {t : Stk} (h : stackB t = true) : crashS t = ⟨t.dsk, t.prt, [], t.mst⟩ := by simp [crashS, h]
set_option maxHeartbeats 4000000 in
theorem implCrash_c (x0 x1 x2 x3 : Value) (t : Stk) (w : World) (h : StackRd w [x0, x1, x2, x3] t) (hs : sizeStack t ≤ 1099511627776) :
    Calls Try.prog 33 #[.agg #[x0, x1, x2, x3]] w (MadeStack (crashS t) w) := by
  obtain ⟨A0, c0, A1, c1, A2, c2, e0, e1, e2, e3⟩ := id h.mst
  subst e0 e1 e2 e3
  have HR := Lib.hid h
  have L0 := Loc.new w [.slice A0 t.dsk.length c0, .slice A1 t.prt.length c1, .slice A2 t.lns.length c2, .int .i64 t.mst] 35
  have L1 := Loc.newAt (w.alloc (.cells #[.slice A0 t.dsk.length c0, .slice A1 t.prt.length c1, .slice A2 t.lns.length c2, .int .i64 t.mst] 35)) [.slice none 0 0, .slice none 0 0, .slice none 0 0, .int .i64 0] 35 (b := w.heap.size + 1) (by simp)
  cases hv : stackB t
  · have HV := Lib.hid hv
    have HN := Lib.hid (crash_no hv)
    clear hv
    go_enter Try.func33, Try.ntmps33
    go_wp2_with fail
    refine (implStack_c _ _ _ _ t _ (StackRd.below HR.out (by repeat (first | with_reducible exact Below.refl _ _ | with_reducible refine below_drewN ?_ _ | with_reducible refine Below.drew ?_ | with_reducible refine Below.alloc ?_ ?_ _ | with_reducible refine Below.setCell ?_ ?_ _ | omega | (focus (simp; omega)) | (focus (simp; done))))) hs).mono ?_
    rw [HV.out]
    rintro e w1 ⟨rfl, hb1⟩
    have M1 := Loc.carryB L1 (fun h => by ((repeat (first | with_reducible exact h | with_reducible refine Loc.drew ?_ | with_reducible refine Loc.drewN ?_ _ | with_reducible refine Loc.alloc ?_ _)); done)) hb1
    obtain ⟨m0, m1, m2, m3, mf⟩ := M1.four
    go_wp2
    refine bodyPost_ret (v := .agg #[.slice none 0 0, .slice none 0 0, .slice none 0 0, .int .i64 0]) (by simp [results, Try.results33, go_sem, *]; done) rfl ⟨_, _, _, _, rfl, ?_, ?_⟩
    · rw [HN.out]; exact stackOwn_zero _ _ _
    · exact (by repeat (first | with_reducible exact Below.refl _ _ | with_reducible assumption | with_reducible refine below_drewN ?_ _ | with_reducible refine Below.drew ?_ | with_reducible refine Below.alloc ?_ ?_ _ | with_reducible refine Below.setCell ?_ ?_ _ | (with_reducible refine Below.next ?_ (by assumption)) | omega | (focus (simp; omega)) | (focus (simp; done))))
  · have HV := Lib.hid hv
    have HN := Lib.hid (crash_yes hv)
    clear hv
    have hs' := hs
    unfold sizeStack at hs'
    go_enter Try.func33, Try.ntmps33
    go_wp2_with fail
    refine (implStack_c _ _ _ _ t _ (StackRd.below HR.out (by repeat (first | with_reducible exact Below.refl _ _ | with_reducible refine below_drewN ?_ _ | with_reducible refine Below.drew ?_ | with_reducible refine Below.alloc ?_ ?_ _ | with_reducible refine Below.setCell ?_ ?_ _ | omega | (focus (simp; omega)) | (focus (simp; done))))) hs).mono ?_
    rw [HV.out]
    rintro e w1 ⟨rfl, hb1⟩
    have M0 := Loc.carryB L0 (fun h => by ((repeat (first | with_reducible exact h | with_reducible refine Loc.drew ?_ | with_reducible refine Loc.drewN ?_ _ | with_reducible refine Loc.alloc ?_ _)); done)) hb1
    have M1 := Loc.carryB L1 (fun h => by ((repeat (first | with_reducible exact h | with_reducible refine Loc.drew ?_ | with_reducible refine Loc.drewN ?_ _ | with_reducible refine Loc.alloc ?_ _)); done)) hb1
    obtain ⟨k0, k1, k2, k3, kf⟩ := M0.four
    have W1 : Hid (Below w.heap.size w w1) := Lib.hid (Below.next (W := w) (by repeat (first | with_reducible exact Below.refl _ _ | with_reducible refine below_drewN ?_ _ | with_reducible refine Below.drew ?_ | with_reducible refine Below.alloc ?_ ?_ _ | with_reducible refine Below.setCell ?_ ?_ _ | omega | (focus (simp; omega)) | (focus (simp; done)))) hb1)
    have HR1 := Lib.hid (StackRd.below HR.out W1.out)
    have zM0 := M0.lt
    have zM1 := M1.lt
    have hz1 := hb1.size
    (try simp at hz1)
    clear hb1
    go_wp2_with fail
    go_region_held3 (fun w' => w'.cell? ⟨w.heap.size, 0, none⟩ = some (.slice A0 t.dsk.length c0) ∧ w'.cell? ⟨w.heap.size, 1, none⟩ = some (.slice A1 t.prt.length c1) ∧ w'.cell? ⟨w.heap.size, 3, none⟩ = some (.int .i64 t.mst)) (first | (with_reducible assumption) | (refine ⟨?_, ?_, ?_⟩ <;> with_reducible assumption) | (with_reducible refine put4_cell _ _ _ _ ?_ ?_ <;> first | (with_reducible assumption) | omega) | (refine ⟨?_, ?_, ?_⟩ <;> with_reducible refine put4_cell _ _ _ _ ?_ ?_ <;> first | (with_reducible assumption) | omega) | go_keep)
      (first
        | (go_at_call 82; go_must ((with_reducible refine (cloneInt_v (.slice A0 t.dsk.length c0) t.dsk _ (SRd.below HR1.out.parts.1 (by repeat (first | with_reducible exact Below.refl _ _ | with_reducible refine below_drewN ?_ _ | with_reducible refine Below.drew ?_ | with_reducible refine Below.alloc ?_ ?_ _ | with_reducible refine Below.setCell ?_ ?_ _ | omega | (focus (simp; omega)) | (focus (simp; done))))) (by omega)).mono ?_); rintro e w2 ⟨u, rfl, ou, hb2⟩; obtain ⟨Au, cu, gu, rfl, -, -⟩ := id ou; have N0 := Loc.carryB M0 (fun h => by ((repeat (first | with_reducible exact h | with_reducible refine Loc.drew ?_ | with_reducible refine Loc.drewN ?_ _ | with_reducible refine Loc.alloc ?_ _)); done)) hb2; have N1 := Loc.carryB M1 (fun h => by ((repeat (first | with_reducible exact h | with_reducible refine Loc.drew ?_ | with_reducible refine Loc.drewN ?_ _ | with_reducible refine Loc.alloc ?_ _)); done)) hb2; obtain ⟨n0, n1, n2, n3, nf⟩ := N0.four; have W2 : Hid (Below w.heap.size w w2) := Lib.hid (Below.next (W := w) (by repeat (first | with_reducible exact W1.out | with_reducible exact Below.refl _ _ | with_reducible refine below_drewN ?_ _ | with_reducible refine Below.drew ?_ | with_reducible refine Below.alloc ?_ ?_ _ | with_reducible refine Below.setCell ?_ ?_ _ | (with_reducible refine Below.next ?_ (by assumption)) | ((with_reducible refine Below.far' (by assumption) ?_ ?_ ?_); (focus (first | omega | (simp; omega) | (simp; done))); (focus (first | omega | (simp; omega) | (simp; done)))) | omega | (focus (simp; omega)) | (focus (simp; done)))) hb2); have hz2 := hb2.size; (try simp at hz2); have OU : Hid (SOwn eInt 3 w1.heap.size w2 w2.heap.size (.slice Au t.dsk.length cu) t.dsk) := Lib.hid (SOwn.mono ou (by simp) (Nat.le_refl _)); have HR2 := Lib.hid (StackRd.below HR.out W2.out); have zN1 := N1.lt; have zN0 := N0.lt; clear hb2 ou))
        | (go_at_call 58; go_must ((with_reducible refine (clonePartS_w (.slice A1 t.prt.length c1) t.prt _ (SRd.below HR2.out.parts.2.1 (by repeat (first | with_reducible exact Below.refl _ _ | with_reducible refine below_drewN ?_ _ | with_reducible refine Below.drew ?_ | with_reducible refine Below.alloc ?_ ?_ _ | with_reducible refine Below.setCell ?_ ?_ _ | omega | (focus (simp; omega)) | (focus (simp; done))))) (by omega)).mono ?_); rintro e w3 ⟨v, rfl, ov, hb3⟩; obtain ⟨Av, cv, gv, rfl, -, -⟩ := id ov; have P0 := Loc.carryB N0 (fun h => by ((repeat (first | with_reducible exact h | with_reducible refine Loc.drew ?_ | with_reducible refine Loc.drewN ?_ _ | with_reducible refine Loc.alloc ?_ _)); done)) hb3; have P1 := Loc.carryB N1 (fun h => by ((repeat (first | with_reducible exact h | with_reducible refine Loc.drew ?_ | with_reducible refine Loc.drewN ?_ _ | with_reducible refine Loc.alloc ?_ _)); done)) hb3; obtain ⟨p0, p1, p2, p3, pf⟩ := P0.four; obtain ⟨q0, q1, q2, q3, qf⟩ := P1.four; have W3 : Hid (Below w.heap.size w w3) := Lib.hid (Below.next (W := w) (by repeat (first | with_reducible exact W2.out | with_reducible exact Below.refl _ _ | with_reducible refine below_drewN ?_ _ | with_reducible refine Below.drew ?_ | with_reducible refine Below.alloc ?_ ?_ _ | with_reducible refine Below.setCell ?_ ?_ _ | (with_reducible refine Below.next ?_ (by assumption)) | ((with_reducible refine Below.far' (by assumption) ?_ ?_ ?_); (focus (first | omega | (simp; omega) | (simp; done))); (focus (first | omega | (simp; omega) | (simp; done)))) | omega | (focus (simp; omega)) | (focus (simp; done)))) hb3); have hz3 := hb3.size; (try simp at hz3); have OV : Hid (SOwn encPartS tyPartS w2.heap.size w3 w3.heap.size (.slice Av t.prt.length cv) t.prt) := Lib.hid (SOwn.mono ov (by simp) (Nat.le_refl _)); have OU3 : Hid (SOwn eInt 3 w1.heap.size w3 w2.heap.size (.slice Au t.dsk.length cu) t.dsk) := Lib.hid (SOwn.below OU.out (Below.next (W := w2) (by repeat (first | with_reducible exact Below.refl _ _ | with_reducible refine below_drewN ?_ _ | with_reducible refine Below.drew ?_ | with_reducible refine Below.alloc ?_ ?_ _ | with_reducible refine Below.setCell ?_ ?_ _ | omega | (focus (simp; omega)) | (focus (simp; done)))) hb3)); have zP1 := P1.lt; clear hb3 ov)))
    go_wp2
    refine bodyPost_ret (v := .agg #[.slice Au t.dsk.length cu, .slice Av t.prt.length cv, .slice none 0 0, .int .i64 t.mst]) (by simp [results, Try.results33, go_sem, q0, q1, q2, q3]; done) rfl ⟨_, _, _, _, rfl, ?_, ?_⟩
    · rw [HN.out]
      exact stackOwn_of (B1 := w1.heap.size) (C1 := w2.heap.size) (B2 := w2.heap.size) (C2 := w3.heap.size) rfl (by repeat (first | with_reducible exact OU3.out | with_reducible refine SOwn.drew ?_ | with_reducible refine SOwn.drewN ?_ _ | with_reducible refine SOwn.alloc ?_ _ | (with_reducible refine SOwn.below ?_ (by assumption)) | ((with_reducible refine SOwn.other ?_ ?_ _); rotate_left; (focus (first | omega | (simp; omega) | (simp; done)))))) (by repeat (first | with_reducible exact OV.out | with_reducible refine SOwn.drew ?_ | with_reducible refine SOwn.drewN ?_ _ | with_reducible refine SOwn.alloc ?_ _ | (with_reducible refine SOwn.below ?_ (by assumption)) | ((with_reducible refine SOwn.other ?_ ?_ _); rotate_left; (focus (first | omega | (simp; omega) | (simp; done)))))) (SOwn.nil0 _ _ _) (apart_nil _) (by omega) ⟨by omega, by omega⟩ ⟨by simp; omega, by simp⟩
    · exact (by repeat (first | with_reducible exact W3.out | with_reducible exact Below.refl _ _ | with_reducible refine below_drewN ?_ _ | with_reducible refine Below.drew ?_ | with_reducible refine Below.alloc ?_ ?_ _ | with_reducible refine Below.setCell ?_ ?_ _ | (with_reducible refine Below.next ?_ (by assumption)) | ((with_reducible refine Below.far' (by assumption) ?_ ?_ ?_); (focus (first | omega | (simp; omega) | (simp; done))); (focus (first | omega | (simp; omega) | (simp; done)))) | omega | (focus (simp; omega)) | (focus (simp; done))))
set_option maxHeartbeats 4000000 in
theorem specCrash_c (x0 x1 x2 x3 : Value) (t : Stk) (w : World) (h : StackRd w [x0, x1, x2, x3] t) (hs : sizeStack t ≤ 1099511627776) :
    Calls Try.prog 35 #[.agg #[x0, x1, x2, x3]] w (MadeStack (crashS t) w) := by
  obtain ⟨A0, c0, A1, c1, A2, c2, e0, e1, e2, e3⟩ := id h.mst
  subst e0 e1 e2 e3
  have HR := Lib.hid h
  have L0 := Loc.new w [.slice A0 t.dsk.length c0, .slice A1 t.prt.length c1, .slice A2 t.lns.length c2, .int .i64 t.mst] 35
  have L1 := Loc.newAt (w.alloc (.cells #[.slice A0 t.dsk.length c0, .slice A1 t.prt.length c1, .slice A2 t.lns.length c2, .int .i64 t.mst] 35)) [.slice none 0 0, .slice none 0 0, .slice none 0 0, .int .i64 0] 35 (b := w.heap.size + 1) (by simp)
  cases hv : stackB t
  · have HV := Lib.hid hv
    have HN := Lib.hid (crash_no hv)
    clear hv
    go_enter Try.func35, Try.ntmps35
    go_wp2_with fail
    refine (specStack_c _ _ _ _ t _ (StackRd.below HR.out (by repeat (first | with_reducible exact Below.refl _ _ | with_reducible refine below_drewN ?_ _ | with_reducible refine Below.drew ?_ | with_reducible refine Below.alloc ?_ ?_ _ | with_reducible refine Below.setCell ?_ ?_ _ | omega | (focus (simp; omega)) | (focus (simp; done))))) hs).mono ?_
    rw [HV.out]
    rintro e w1 ⟨rfl, hb1⟩
    have M1 := Loc.carryB L1 (fun h => by ((repeat (first | with_reducible exact h | with_reducible refine Loc.drew ?_ | with_reducible refine Loc.drewN ?_ _ | with_reducible refine Loc.alloc ?_ _)); done)) hb1
    obtain ⟨m0, m1, m2, m3, mf⟩ := M1.four
    go_wp2
    refine bodyPost_ret (v := .agg #[.slice none 0 0, .slice none 0 0, .slice none 0 0, .int .i64 0]) (by simp [results, Try.results35, go_sem, *]; done) rfl ⟨_, _, _, _, rfl, ?_, ?_⟩
    · rw [HN.out]; exact stackOwn_zero _ _ _
    · exact (by repeat (first | with_reducible exact Below.refl _ _ | with_reducible assumption | with_reducible refine below_drewN ?_ _ | with_reducible refine Below.drew ?_ | with_reducible refine Below.alloc ?_ ?_ _ | with_reducible refine Below.setCell ?_ ?_ _ | (with_reducible refine Below.next ?_ (by assumption)) | omega | (focus (simp; omega)) | (focus (simp; done))))
  have HV := Lib.hid hv
  have HN := Lib.hid (crash_yes hv)
  have hcb := (stack_true.1 hv).2.2
  have hdb := (stack_true.1 hv).1
  clear hv
  have hs' := hs
  unfold sizeStack at hs'
  go_enter Try.func35, Try.ntmps35
  go_wp2_with fail
  refine (specStack_c _ _ _ _ t _ (StackRd.below HR.out (by repeat (first | with_reducible exact Below.refl _ _ | with_reducible refine below_drewN ?_ _ | with_reducible refine Below.drew ?_ | with_reducible refine Below.alloc ?_ ?_ _ | with_reducible refine Below.setCell ?_ ?_ _ | omega | (focus (simp; omega)) | (focus (simp; done))))) hs).mono ?_
  rw [HV.out]
  rintro e w1 ⟨rfl, hb1⟩
  have M0 := Loc.carryB L0 (fun h => by ((repeat (first | with_reducible exact h | with_reducible refine Loc.drew ?_ | with_reducible refine Loc.drewN ?_ _ | with_reducible refine Loc.alloc ?_ _)); done)) hb1
  have M1 := Loc.carryB L1 (fun h => by ((repeat (first | with_reducible exact h | with_reducible refine Loc.drew ?_ | with_reducible refine Loc.drewN ?_ _ | with_reducible refine Loc.alloc ?_ _)); done)) hb1
  obtain ⟨k0, k1, k2, k3, kf⟩ := M0.four
  have W1 : Hid (Below w.heap.size w w1) := Lib.hid (Below.next (W := w) (by repeat (first | with_reducible exact Below.refl _ _ | with_reducible refine below_drewN ?_ _ | with_reducible refine Below.drew ?_ | with_reducible refine Below.alloc ?_ ?_ _ | with_reducible refine Below.setCell ?_ ?_ _ | omega | (focus (simp; omega)) | (focus (simp; done)))) hb1)
  have HR1 := Lib.hid (StackRd.below HR.out W1.out)
  have zM1 := M1.lt
  have hz1 := hb1.size
  (try simp at hz1)
  clear hb1
  go_wp2_with fail
  refine (copyStack_c _ _ _ _ t _ HR1.out hs).mono ?_
  rintro e w2 ⟨y0, y1, y2, y3, rfl, oc, hb2⟩
  obtain ⟨B0, d0, B1, d1, B2, d2, e0, e1, e2, e3⟩ := id oc.rd.mst
  subst e0 e1 e2 e3
  have N1 := Loc.carryB M1 (fun h => by ((repeat (first | with_reducible exact h | with_reducible refine Loc.drew ?_ | with_reducible refine Loc.drewN ?_ _ | with_reducible refine Loc.alloc ?_ _)); done)) hb2
  have W2 : Hid (Below w.heap.size w w2) := Lib.hid (Below.next (W := w) W1.out hb2)
  have LX := Loc.newAt w2 [.slice B0 t.dsk.length d0, .slice B1 t.prt.length d1, .slice B2 t.lns.length d2, .int .i64 t.mst] 35 (b := w2.heap.size) rfl
  have hz2 := hb2.size
  have zN1 := N1.lt
  have OC := Lib.hid oc
  clear hb2 oc k0 k1 k2 k3 kf
  obtain ⟨k0, k1, k2, k3, kf⟩ := LX.four
  have OC' := Lib.hid OC.out.slices
  have hap : Hid (Apart (.slice B0 t.dsk.length d0) (.slice B1 t.prt.length d1)) := Lib.hid (by
    obtain ⟨u, v, y, h1, _, _, _, h5, _⟩ := OC.out
    simp only [List.cons.injEq, and_true] at h1
    obtain ⟨rfl, rfl, rfl, _⟩ := h1
    exact h5)
  obtain ⟨q0, q1, q2, q3, qf⟩ := N1.four
  clear hdb hcb
  have zz0 : w.heap.size < w2.heap.size := by omega
  have zz1 : w.heap.size + 1 ≠ w2.heap.size := by omega
  have zz2 : w2.heap.size ≠ w.heap.size + 1 := by omega
  have zz3 : w.heap.size < w2.heap.size + 1 := by omega
  have zz4 : w.heap.size ≠ w2.heap.size := by omega
  go_wp2
  have hap2 : Apart (.slice B0 t.dsk.length d0) (.slice (some ⟨w2.heap.size + 1, 0, none⟩) 0 0) := by
    obtain ⟨A, c, g, he, hr, hg⟩ := OC'.out.1
    intro a n c a' n' c' h1 h2
    cases h1
    cases h2
    cases he
    rw [hr.addr]
    simp at hg ⊢
    omega
  have hap3 : Apart (.slice B1 t.prt.length d1) (.slice (some ⟨w2.heap.size + 1, 0, none⟩) 0 0) := by
    obtain ⟨A, c, g, he, hr, hg⟩ := OC'.out.2.1
    intro a n c a' n' c' h1 h2
    cases h1
    cases h2
    cases he
    rw [hr.addr]
    simp at hg ⊢
    omega
  have OU := Lib.hid OC'.out.1
  have OP := Lib.hid OC'.out.2.1
  refine bodyPost_ret (v := .agg #[.slice B0 t.dsk.length d0, .slice B1 t.prt.length d1, .slice (some ⟨w2.heap.size + 1, 0, none⟩) 0 0, .int .i64 t.mst]) (by simp [results, Try.results35, go_sem, q0, q1, q2, q3, zz0, zN1]; done) rfl ⟨_, _, _, _, rfl, ?_, ?_⟩
  · rw [HN.out]
    refine ⟨_, _, _, rfl, SOwn.mono (B := w1.heap.size) (C := w2.heap.size) (by repeat (first | with_reducible exact OU.out | with_reducible refine SOwn.drew ?_ | with_reducible refine SOwn.drewN ?_ _ | with_reducible refine SOwn.alloc ?_ _ | (with_reducible refine SOwn.below ?_ (by assumption)) | ((with_reducible refine SOwn.other ?_ ?_ _); rotate_left; (focus (first | omega | (simp; omega) | (simp; done)))))) (by omega) (by simp; omega), SOwn.mono (B := w1.heap.size) (C := w2.heap.size) (by repeat (first | with_reducible exact OP.out | with_reducible refine SOwn.drew ?_ | with_reducible refine SOwn.drewN ?_ _ | with_reducible refine SOwn.alloc ?_ _ | (with_reducible refine SOwn.below ?_ (by assumption)) | ((with_reducible refine SOwn.other ?_ ?_ _); rotate_left; (focus (first | omega | (simp; omega) | (simp; done)))))) (by omega) (by simp; omega), ⟨some ⟨w2.heap.size + 1, 0, none⟩, 0, w2.heap.size + 1, rfl, Row.made0 (by simp), .inr ⟨by omega, by simp⟩⟩, hap.out, hap2, hap3⟩
  · exact (by repeat (first | with_reducible exact W2.out | with_reducible exact Below.refl _ _ | with_reducible refine below_drewN ?_ _ | with_reducible refine Below.drew ?_ | with_reducible refine Below.alloc ?_ ?_ _ | with_reducible refine Below.setCell ?_ ?_ _ | (with_reducible refine Below.next ?_ (by assumption)) | ((with_reducible refine Below.far' (by assumption) ?_ ?_ ?_); (focus (first | omega | (simp; omega) | (simp; done))); (focus (first | omega | (simp; omega) | (simp; done)))) | omega | (focus (simp; omega)) | (focus (simp; done))))
end Go.Proofs.Ytlhbjfjphckifaa
