/-
  The reference's StackWrite and StackRead. Conditions: lengths at most 2^40.
-/
import Derived.Test.YtlhbjfjphckifaaBase
import Derived.Test.YtlhbjfjphckifaaNum
import Derived.Test.YtlhbjfjphckifaaInts
import Derived.Test.YtlhbjfjphckifaaApp
import Derived.Test.YtlhbjfjphckifaaIntsW
import Derived.Test.YtlhbjfjphckifaaLib
import Derived.Test.YtlhbjfjphckifaaSpares
import Derived.Test.YtlhbjfjphckifaaOwn
import Derived.Test.YtlhbjfjphckifaaPart
import Derived.Test.YtlhbjfjphckifaaLine
import Derived.Test.YtlhbjfjphckifaaStack
import Derived.Test.YtlhbjfjphckifaaStackM
import Derived.Test.YtlhbjfjphckifaaStackC
import Derived.Test.YtlhbjfjphckifaaStackF
import Derived.Test.YtlhbjfjphckifaaStackS
import Derived.Test.YtlhbjfjphckifaaStackCp
import Derived.Test.YtlhbjfjphckifaaStackS2
import Derived.Test.YtlhbjfjphckifaaStackU
import Derived.Test.YtlhbjfjphckifaaStackU2
import Derived.Test.YtlhbjfjphckifaaStackR
import Derived.Test.YtlhbjfjphckifaaStackD
import Derived.Test.YtlhbjfjphckifaaStackW
import Derived.Test.YtlhbjfjphckifaaStackX
namespace Go.Proofs.Ytlhbjfjphckifaa
open Go.RowKit
set_option maxHeartbeats 4000000 in
theorem specWr_c (x0 x1 x2 x3 : Value) (t : Stk) (p a v : Int) (w : World) (h : StackRd w [x0, x1, x2, x3] t) (hs : sizeStack t ≤ 1099511627776) :
    Calls Try.prog 24 #[.agg #[x0, x1, x2, x3], .int .i64 p, .int .i64 a, .int .i64 v] w (MadeStack (writeS t p a v) w) := by
  obtain ⟨A0, c0, A1, c1, A2, c2, e0, e1, e2, e3⟩ := id h.mst
  subst e0 e1 e2 e3
  have HR := Lib.hid h
  have L0 := Loc.new w [.slice A0 t.dsk.length c0, .slice A1 t.prt.length c1, .slice A2 t.lns.length c2, .int .i64 t.mst] 35
  have L1 := Loc.newAt (w.alloc (.cells #[.slice A0 t.dsk.length c0, .slice A1 t.prt.length c1, .slice A2 t.lns.length c2, .int .i64 t.mst] 35)) [.slice none 0 0, .slice none 0 0, .slice none 0 0, .int .i64 0] 35 (b := w.heap.size + 1) (by simp)
  obtain ⟨q, hq⟩ : ∃ q, q = placeB t p a := ⟨_, rfl⟩
  have hcs := place_cases t p a
  rw [← hq] at hcs
  have HQ := Lib.hid hq
  have HCS := Lib.hid hcs
  have hs' := hs
  unfold sizeStack at hs'
  clear hq hcs
  go_enter Try.func24, Try.ntmps24
  go_wp2_with fail
  refine (specStack_c _ _ _ _ t _ (StackRd.below HR.out (by repeat (first | with_reducible exact Below.refl _ _ | with_reducible refine below_drewN ?_ _ | with_reducible refine Below.drew ?_ | with_reducible refine Below.alloc ?_ ?_ _ | with_reducible refine Below.setCell ?_ ?_ _ | omega | (focus (simp; omega)) | (focus (simp; done))))) hs).mono ?_
  cases hst : stackB t
  · rintro e wa ⟨rfl, hba⟩
    have HN := Lib.hid (write_no1 (p := p) (a := a) v (by rw [place_no hst]; omega))
    clear hst
    have M1 := Loc.carryB L1 (fun h => by ((repeat (first | with_reducible exact h | with_reducible refine Loc.drew ?_ | with_reducible refine Loc.drewN ?_ _ | with_reducible refine Loc.alloc ?_ _)); done)) hba
    have Wz : Hid (Below w.heap.size w wa) := Lib.hid (Below.next (W := w) (by repeat (first | with_reducible exact Below.refl _ _ | with_reducible refine below_drewN ?_ _ | with_reducible refine Below.drew ?_ | with_reducible refine Below.alloc ?_ ?_ _ | with_reducible refine Below.setCell ?_ ?_ _ | omega | (focus (simp; omega)) | (focus (simp; done)))) hba)
    obtain ⟨m0, m1, m2, m3, mf⟩ := M1.four
    go_wp2
    refine bodyPost_ret (v := .agg #[.slice none 0 0, .slice none 0 0, .slice none 0 0, .int .i64 0]) (by simp [results, Try.results24, go_sem, *]; done) rfl ?_
    skip
    refine ⟨_, _, _, _, rfl, ?_, ?_⟩
    · rw [HN.out]; exact stackOwn_zero _ _ _
    · exact (by repeat (first | with_reducible exact Wz.out | with_reducible exact Below.refl _ _ | with_reducible refine below_drewN ?_ _ | with_reducible refine Below.drew ?_ | with_reducible refine Below.alloc ?_ ?_ _ | with_reducible refine Below.setCell ?_ ?_ _ | (with_reducible refine Below.next ?_ (by assumption)) | ((with_reducible refine Below.far' (by assumption) ?_ ?_ ?_); (focus (first | omega | (simp; omega) | (simp; done))); (focus (first | omega | (simp; omega) | (simp; done)))) | omega | (focus (simp; omega)) | (focus (simp; done))))
  · have HST := Lib.hid hst
    clear hst
    rintro e wa ⟨rfl, hba⟩
    cases hvv : inB v 0 255
    · have HN := Lib.hid (write_no2 (t := t) (p := p) (a := a) hvv)
      have HVV := Lib.hid hvv
      clear hvv
      have Mq := Loc.carryB L1 (fun h => by ((repeat (first | with_reducible exact h | with_reducible refine Loc.drew ?_ | with_reducible refine Loc.drewN ?_ _ | with_reducible refine Loc.alloc ?_ _)); done)) hba
      obtain ⟨m0, m1, m2, m3, mf⟩ := Mq.four
      go_wp2_with (go_at_call 65; refine (l1In_any _ _ _ _).mono ?_; rw [HVV.out]; rintro e w' ⟨rfl, rfl⟩)
      refine bodyPost_ret (v := .agg #[.slice none 0 0, .slice none 0 0, .slice none 0 0, .int .i64 0]) (by simp [results, Try.results24, go_sem, *]; done) rfl ⟨_, _, _, _, rfl, ?_, ?_⟩
      · rw [HN.out]; exact stackOwn_zero _ _ _
      · exact (by repeat (first | with_reducible exact Below.refl _ _ | with_reducible assumption | with_reducible refine below_drewN ?_ _ | with_reducible refine Below.drew ?_ | with_reducible refine Below.alloc ?_ ?_ _ | with_reducible refine Below.setCell ?_ ?_ _ | (with_reducible refine Below.next ?_ (by assumption)) | omega | (focus (simp; omega)) | (focus (simp; done))))
    · have HVV := Lib.hid hvv
      have Ma0 := Loc.carryB L0 (fun h => by ((repeat (first | with_reducible exact h | with_reducible refine Loc.drew ?_ | with_reducible refine Loc.drewN ?_ _ | with_reducible refine Loc.alloc ?_ _)); done)) hba
      have Ma1 := Loc.carryB L1 (fun h => by ((repeat (first | with_reducible exact h | with_reducible refine Loc.drew ?_ | with_reducible refine Loc.drewN ?_ _ | with_reducible refine Loc.alloc ?_ _)); done)) hba
      obtain ⟨k0, k1, k2, k3, kf⟩ := Ma0.four
      have Wa : Hid (Below w.heap.size w wa) := Lib.hid (Below.next (W := w) (by repeat (first | with_reducible exact Below.refl _ _ | with_reducible refine below_drewN ?_ _ | with_reducible refine Below.drew ?_ | with_reducible refine Below.alloc ?_ ?_ _ | with_reducible refine Below.setCell ?_ ?_ _ | omega | (focus (simp; omega)) | (focus (simp; done)))) hba)
      have HRa := Lib.hid (StackRd.below HR.out Wa.out)
      have hza := hba.size
      (try simp at hza)
      have R1 : Hid (Rd encPartS wa A1 t.prt) := Lib.hid (by
        obtain ⟨A', c', he, hr, _⟩ := HRa.out.parts.2.1
        injection he with q1 q2 q3
        subst q1
        exact hr)
      clear hba
      go_wp2_with (go_at_call 65; refine (l1In_any _ _ _ _).mono ?_; rw [HVV.out]; rintro e w' ⟨rfl, rfl⟩)
      refine (specToDisk_c A1 c1 t.prt t.dsk.length p a _ R1.out (by omega) (by omega)).mono ?_
      rw [← place_yes HST.out, ← HQ.out]
      rintro e w1 ⟨rfl, hb1⟩
      have M0 := Loc.carryB Ma0 (fun h => by ((repeat (first | with_reducible exact h | with_reducible refine Loc.drew ?_ | with_reducible refine Loc.drewN ?_ _ | with_reducible refine Loc.alloc ?_ _)); done)) hb1
      have M1 := Loc.carryB Ma1 (fun h => by ((repeat (first | with_reducible exact h | with_reducible refine Loc.drew ?_ | with_reducible refine Loc.drewN ?_ _ | with_reducible refine Loc.alloc ?_ _)); done)) hb1
      clear k0 k1 k2 k3 kf
      obtain ⟨k0, k1, k2, k3, kf⟩ := M0.four
      have W1 : Hid (Below w.heap.size w w1) := Lib.hid (Below.next (W := w) Wa.out hb1)
      have HR1 := Lib.hid (StackRd.below HR.out W1.out)
      have zM0 := M0.lt
      have zM1 := M1.lt
      have hz1 := hb1.size
      (try simp at hz1)
      by_cases hq0 : q < 0
      · have HN := Lib.hid (write_no1 v (by rw [← HQ.out]; exact hq0))
        clear hvv
        have M1 := Loc.carryB Ma1 (fun h => by ((repeat (first | with_reducible exact h | with_reducible refine Loc.drew ?_ | with_reducible refine Loc.drewN ?_ _ | with_reducible refine Loc.alloc ?_ _)); done)) hb1
        skip
        obtain ⟨m0, m1, m2, m3, mf⟩ := M1.four
        go_wp2
        refine bodyPost_ret (v := .agg #[.slice none 0 0, .slice none 0 0, .slice none 0 0, .int .i64 0]) (by simp [results, Try.results24, go_sem, *]; done) rfl ?_
        skip
        refine ⟨_, _, _, _, rfl, ?_, ?_⟩
        · rw [HN.out]; exact stackOwn_zero _ _ _
        · exact (by repeat (first | with_reducible exact W1.out | with_reducible exact Below.refl _ _ | with_reducible refine below_drewN ?_ _ | with_reducible refine Below.drew ?_ | with_reducible refine Below.alloc ?_ ?_ _ | with_reducible refine Below.setCell ?_ ?_ _ | (with_reducible refine Below.next ?_ (by assumption)) | ((with_reducible refine Below.far' (by assumption) ?_ ?_ ?_); (focus (first | omega | (simp; omega) | (simp; done))); (focus (first | omega | (simp; omega) | (simp; done)))) | omega | (focus (simp; omega)) | (focus (simp; done))))
      · obtain ⟨k, rfl⟩ := Int.eq_ofNat_of_zero_le (Int.not_lt.1 hq0)
        have hn := write_yes (t := t) (p := p) (a := a) (v := v) (by rw [← HQ.out]; omega) hvv
        rw [← HQ.out] at hn
        have hst := HCS.out
        rcases hst with hst | ⟨hst, -, hq1, -⟩
        · exfalso; omega
        have hdb := (stack_true.1 hst).1
        have hcb := (stack_true.1 hst).2.2
        have HDB := Lib.hid hdb
        have HCB := Lib.hid hcb
        have HST := Lib.hid hst
        clear hst hdb hcb
        obtain ⟨lx, hlx⟩ : ∃ lx, lx = cutL (lruL t.lns ⟨k, v, true⟩) t.mst := ⟨_, rfl⟩
        obtain ⟨dx, hdx⟩ : ∃ dx, dx = cutD t.dsk (lruL t.lns ⟨k, v, true⟩) t.mst := ⟨_, rfl⟩
        have HLX := Lib.hid hlx
        have HDX := Lib.hid hdx
        clear hlx hdx
        rw [← HLX.out, ← HDX.out] at hn
        have HN := Lib.hid hn
        have hkd : k < t.dsk.length := by omega
        clear hb1 hvv hn
        go_wp2_with fail
        refine (copyStack_c _ _ _ _ t _ HR1.out hs).mono ?_
        rintro e w2 ⟨y0, y1, y2, y3, rfl, oc, hb2⟩
        obtain ⟨B0, d0, B1, d1, B2, d2, e0, e1, e2, e3⟩ := id oc.rd.mst
        subst e0 e1 e2 e3
        have N1 := Loc.carryB M1 (fun h => by ((repeat (first | with_reducible exact h | with_reducible refine Loc.drew ?_ | with_reducible refine Loc.drewN ?_ _ | with_reducible refine Loc.alloc ?_ _)); done)) hb2
        have W2 : Hid (Below w.heap.size w w2) := Lib.hid (Below.next (W := w) W1.out hb2)
        have LX := Loc.newAt w2 [.slice B0 t.dsk.length d0, .slice B1 t.prt.length d1, .slice B2 t.lns.length d2, .int .i64 t.mst] 35 (b := w2.heap.size) rfl
        have hz2 := hb2.size
        have zN1 := N1.lt
        have OC := Lib.hid oc
        clear hb2 oc k0 k1 k2 k3 kf
        obtain ⟨k0, k1, k2, k3, kf⟩ := LX.four
        go_wp2_with fail
        refine (specCWrite_c _ _ t.lns t.mst t.dsk k v _ (SRd.below OC.out.slices.2.2.rd (by repeat (first | with_reducible exact Below.refl _ _ | with_reducible refine below_drewN ?_ _ | with_reducible refine Below.drew ?_ | with_reducible refine Below.alloc ?_ ?_ _ | with_reducible refine Below.setCell ?_ ?_ _ | omega | (focus (simp; omega)) | (focus (simp; done))))) (SRd.below OC.out.slices.1.rd (by repeat (first | with_reducible exact Below.refl _ _ | with_reducible refine below_drewN ?_ _ | with_reducible refine Below.drew ?_ | with_reducible refine Below.alloc ?_ ?_ _ | with_reducible refine Below.setCell ?_ ?_ _ | omega | (focus (simp; omega)) | (focus (simp; done))))) HDB.out HCB.out hkd HVV.out).mono ?_
        rw [← HLX.out, ← HDX.out]
        rintro e w3 ⟨y, u, rfl, oy, ou, hap, hb3⟩
        obtain ⟨Ay, cy, gy, rfl, -, -⟩ := id oy
        obtain ⟨Au, cu, gu, rfl, -, -⟩ := id ou
        have P1 := Loc.carryB N1 (fun h => by ((repeat (first | with_reducible exact h | with_reducible refine Loc.drew ?_ | with_reducible refine Loc.drewN ?_ _ | with_reducible refine Loc.alloc ?_ _)); done)) hb3
        have PX := Loc.carryB LX (fun h => by ((repeat (first | with_reducible exact h | with_reducible refine Loc.drew ?_ | with_reducible refine Loc.drewN ?_ _ | with_reducible refine Loc.alloc ?_ _)); done)) hb3
        have W3 : Hid (Below w.heap.size w w3) := Lib.hid (Below.next (W := w) (by repeat (first | with_reducible exact W2.out | with_reducible exact Below.refl _ _ | with_reducible refine below_drewN ?_ _ | with_reducible refine Below.drew ?_ | with_reducible refine Below.alloc ?_ ?_ _ | with_reducible refine Below.setCell ?_ ?_ _ | (with_reducible refine Below.next ?_ (by assumption)) | ((with_reducible refine Below.far' (by assumption) ?_ ?_ ?_); (focus (first | omega | (simp; omega) | (simp; done))); (focus (first | omega | (simp; omega) | (simp; done)))) | omega | (focus (simp; omega)) | (focus (simp; done)))) hb3)
        have OP : Hid (SOwn encPartS tyPartS w1.heap.size w3 w2.heap.size (.slice B1 t.prt.length d1) t.prt) := Lib.hid (SOwn.below OC.out.slices.2.1 (Below.next (W := w2) (by repeat (first | with_reducible exact Below.refl _ _ | with_reducible refine below_drewN ?_ _ | with_reducible refine Below.drew ?_ | with_reducible refine Below.alloc ?_ ?_ _ | with_reducible refine Below.setCell ?_ ?_ _ | omega | (focus (simp; omega)) | (focus (simp; done)))) hb3))
        have LC := Loc.newAt w3 [.slice Ay lx.length cy, .int .i64 t.mst] 33 (b := w3.heap.size) rfl
        obtain ⟨lc0, lc1, lcf⟩ := LC.two
        have hz3 := hb3.size
        (try simp at hz3)
        have zP1 := P1.lt
        have zPX := PX.lt
        have OY : Hid (SOwn encLineS tyLineS (w2.heap.size + 1) w3 w3.heap.size (.slice Ay lx.length cy) lx) := Lib.hid (SOwn.mono oy (by simp) (Nat.le_refl _))
        have OU : Hid (SOwn eInt 3 (w2.heap.size + 1) w3 w3.heap.size (.slice Au dx.length cu) dx) := Lib.hid (SOwn.mono ou (by simp) (Nat.le_refl _))
        have HAP := Lib.hid hap
        clear hb3 oy ou hap k0 k1 k2 k3 kf
        obtain ⟨k0, k1, k2, k3, kf⟩ := PX.four
        obtain ⟨q0, q1, q2, q3, qf⟩ := P1.four
        go_wp2
        all_goals
          refine bodyPost_ret (v := .agg #[.slice Au dx.length cu, .slice B1 t.prt.length d1, .slice Ay lx.length cy, .int .i64 t.mst]) (by simp [results, Try.results24, go_sem, *]; done) rfl ?_
          skip
          refine ⟨_, _, _, _, rfl, ?_, ?_⟩
          · rw [HN.out]
            exact stackOwn_of (B1 := w2.heap.size + 1) (C1 := w3.heap.size) (B2 := w1.heap.size) (C2 := w2.heap.size) rfl (by repeat (first | with_reducible exact OU.out | with_reducible refine SOwn.drew ?_ | with_reducible refine SOwn.drewN ?_ _ | with_reducible refine SOwn.alloc ?_ _ | (with_reducible refine SOwn.below ?_ (by assumption)) | ((with_reducible refine SOwn.other ?_ ?_ _); rotate_left; (focus (first | omega | (simp; omega) | (simp; done)))))) (by repeat (first | with_reducible exact OP.out | with_reducible refine SOwn.drew ?_ | with_reducible refine SOwn.drewN ?_ _ | with_reducible refine SOwn.alloc ?_ _ | (with_reducible refine SOwn.below ?_ (by assumption)) | ((with_reducible refine SOwn.other ?_ ?_ _); rotate_left; (focus (first | omega | (simp; omega) | (simp; done)))))) (by repeat (first | with_reducible exact OY.out | with_reducible refine SOwn.drew ?_ | with_reducible refine SOwn.drewN ?_ _ | with_reducible refine SOwn.alloc ?_ _ | (with_reducible refine SOwn.below ?_ (by assumption)) | ((with_reducible refine SOwn.other ?_ ?_ _); rotate_left; (focus (first | omega | (simp; omega) | (simp; done)))))) HAP.out (by omega) ⟨by omega, by omega⟩ ⟨by simp, by simp; omega⟩
          · exact (by repeat (first | with_reducible exact W3.out | with_reducible exact Below.refl _ _ | with_reducible refine below_drewN ?_ _ | with_reducible refine Below.drew ?_ | with_reducible refine Below.alloc ?_ ?_ _ | with_reducible refine Below.setCell ?_ ?_ _ | (with_reducible refine Below.next ?_ (by assumption)) | ((with_reducible refine Below.far' (by assumption) ?_ ?_ ?_); (focus (first | omega | (simp; omega) | (simp; done))); (focus (first | omega | (simp; omega) | (simp; done)))) | omega | (focus (simp; omega)) | (focus (simp; done))))
set_option maxHeartbeats 4000000 in
theorem specRd_c (x0 x1 x2 x3 : Value) (t : Stk) (p a : Int) (w : World) (h : StackRd w [x0, x1, x2, x3] t) (hs : sizeStack t ≤ 1099511627776) :
    Calls Try.prog 26 #[.agg #[x0, x1, x2, x3], .int .i64 p, .int .i64 a] w (MadeVStack (readV t p a) (readS t p a) w) := by
  obtain ⟨A0, c0, A1, c1, A2, c2, e0, e1, e2, e3⟩ := id h.mst
  subst e0 e1 e2 e3
  have HR := Lib.hid h
  have L0 := Loc.new w [.slice A0 t.dsk.length c0, .slice A1 t.prt.length c1, .slice A2 t.lns.length c2, .int .i64 t.mst] 35
  have L1 := Loc.newAt (w.alloc (.cells #[.slice A0 t.dsk.length c0, .slice A1 t.prt.length c1, .slice A2 t.lns.length c2, .int .i64 t.mst] 35)) [.slice none 0 0, .slice none 0 0, .slice none 0 0, .int .i64 0] 35 (b := w.heap.size + 1) (by simp)
  obtain ⟨q, hq⟩ : ∃ q, q = placeB t p a := ⟨_, rfl⟩
  have hcs := place_cases t p a
  rw [← hq] at hcs
  have HQ := Lib.hid hq
  have HCS := Lib.hid hcs
  have hs' := hs
  unfold sizeStack at hs'
  clear hq hcs
  go_enter Try.func26, Try.ntmps26
  go_wp2_with fail
  refine (specStack_c _ _ _ _ t _ (StackRd.below HR.out (by repeat (first | with_reducible exact Below.refl _ _ | with_reducible refine below_drewN ?_ _ | with_reducible refine Below.drew ?_ | with_reducible refine Below.alloc ?_ ?_ _ | with_reducible refine Below.setCell ?_ ?_ _ | omega | (focus (simp; omega)) | (focus (simp; done))))) hs).mono ?_
  cases hst : stackB t
  · rintro e wa ⟨rfl, hba⟩
    have HN := Lib.hid (read_no (t := t) (p := p) (a := a) (by rw [place_no hst]; omega)).1
    have HVN := Lib.hid (read_no (t := t) (p := p) (a := a) (by rw [place_no hst]; omega)).2
    clear hst
    have M1 := Loc.carryB L1 (fun h => by ((repeat (first | with_reducible exact h | with_reducible refine Loc.drew ?_ | with_reducible refine Loc.drewN ?_ _ | with_reducible refine Loc.alloc ?_ _)); done)) hba
    have Wz : Hid (Below w.heap.size w wa) := Lib.hid (Below.next (W := w) (by repeat (first | with_reducible exact Below.refl _ _ | with_reducible refine below_drewN ?_ _ | with_reducible refine Below.drew ?_ | with_reducible refine Below.alloc ?_ ?_ _ | with_reducible refine Below.setCell ?_ ?_ _ | omega | (focus (simp; omega)) | (focus (simp; done)))) hba)
    obtain ⟨m0, m1, m2, m3, mf⟩ := M1.four
    go_wp2
    refine bodyPost_ret (v := .tuple #[.int .i64 (-1), .agg #[.slice none 0 0, .slice none 0 0, .slice none 0 0, .int .i64 0]]) (by simp [results, Try.results26, go_sem, *]; done) rfl ?_
    rw [HVN.out]
    refine ⟨_, _, _, _, rfl, ?_, ?_⟩
    · rw [HN.out]; exact stackOwn_zero _ _ _
    · exact (by repeat (first | with_reducible exact Wz.out | with_reducible exact Below.refl _ _ | with_reducible refine below_drewN ?_ _ | with_reducible refine Below.drew ?_ | with_reducible refine Below.alloc ?_ ?_ _ | with_reducible refine Below.setCell ?_ ?_ _ | (with_reducible refine Below.next ?_ (by assumption)) | ((with_reducible refine Below.far' (by assumption) ?_ ?_ ?_); (focus (first | omega | (simp; omega) | (simp; done))); (focus (first | omega | (simp; omega) | (simp; done)))) | omega | (focus (simp; omega)) | (focus (simp; done))))
  · have HST := Lib.hid hst
    clear hst
    rintro e wa ⟨rfl, hba⟩
    have Ma0 := Loc.carryB L0 (fun h => by ((repeat (first | with_reducible exact h | with_reducible refine Loc.drew ?_ | with_reducible refine Loc.drewN ?_ _ | with_reducible refine Loc.alloc ?_ _)); done)) hba
    have Ma1 := Loc.carryB L1 (fun h => by ((repeat (first | with_reducible exact h | with_reducible refine Loc.drew ?_ | with_reducible refine Loc.drewN ?_ _ | with_reducible refine Loc.alloc ?_ _)); done)) hba
    obtain ⟨k0, k1, k2, k3, kf⟩ := Ma0.four
    have Wa : Hid (Below w.heap.size w wa) := Lib.hid (Below.next (W := w) (by repeat (first | with_reducible exact Below.refl _ _ | with_reducible refine below_drewN ?_ _ | with_reducible refine Below.drew ?_ | with_reducible refine Below.alloc ?_ ?_ _ | with_reducible refine Below.setCell ?_ ?_ _ | omega | (focus (simp; omega)) | (focus (simp; done)))) hba)
    have HRa := Lib.hid (StackRd.below HR.out Wa.out)
    have hza := hba.size
    (try simp at hza)
    have R1 : Hid (Rd encPartS wa A1 t.prt) := Lib.hid (by
      obtain ⟨A', c', he, hr, _⟩ := HRa.out.parts.2.1
      injection he with q1 q2 q3
      subst q1
      exact hr)
    clear hba
    go_wp2_with fail
    refine (specToDisk_c A1 c1 t.prt t.dsk.length p a _ R1.out (by omega) (by omega)).mono ?_
    rw [← place_yes HST.out, ← HQ.out]
    rintro e w1 ⟨rfl, hb1⟩
    have M0 := Loc.carryB Ma0 (fun h => by ((repeat (first | with_reducible exact h | with_reducible refine Loc.drew ?_ | with_reducible refine Loc.drewN ?_ _ | with_reducible refine Loc.alloc ?_ _)); done)) hb1
    have M1 := Loc.carryB Ma1 (fun h => by ((repeat (first | with_reducible exact h | with_reducible refine Loc.drew ?_ | with_reducible refine Loc.drewN ?_ _ | with_reducible refine Loc.alloc ?_ _)); done)) hb1
    clear k0 k1 k2 k3 kf
    obtain ⟨k0, k1, k2, k3, kf⟩ := M0.four
    have W1 : Hid (Below w.heap.size w w1) := Lib.hid (Below.next (W := w) Wa.out hb1)
    have HR1 := Lib.hid (StackRd.below HR.out W1.out)
    have zM0 := M0.lt
    have zM1 := M1.lt
    have hz1 := hb1.size
    (try simp at hz1)
    by_cases hq0 : q < 0
    · have HN := Lib.hid (read_no (t := t) (p := p) (a := a) (by rw [← HQ.out]; exact hq0)).1
      have HVN := Lib.hid (read_no (t := t) (p := p) (a := a) (by rw [← HQ.out]; exact hq0)).2
      have M1 := Loc.carryB Ma1 (fun h => by ((repeat (first | with_reducible exact h | with_reducible refine Loc.drew ?_ | with_reducible refine Loc.drewN ?_ _ | with_reducible refine Loc.alloc ?_ _)); done)) hb1
      skip
      obtain ⟨m0, m1, m2, m3, mf⟩ := M1.four
      go_wp2
      refine bodyPost_ret (v := .tuple #[.int .i64 (-1), .agg #[.slice none 0 0, .slice none 0 0, .slice none 0 0, .int .i64 0]]) (by simp [results, Try.results26, go_sem, *]; done) rfl ?_
      rw [HVN.out]
      refine ⟨_, _, _, _, rfl, ?_, ?_⟩
      · rw [HN.out]; exact stackOwn_zero _ _ _
      · exact (by repeat (first | with_reducible exact W1.out | with_reducible exact Below.refl _ _ | with_reducible refine below_drewN ?_ _ | with_reducible refine Below.drew ?_ | with_reducible refine Below.alloc ?_ ?_ _ | with_reducible refine Below.setCell ?_ ?_ _ | (with_reducible refine Below.next ?_ (by assumption)) | ((with_reducible refine Below.far' (by assumption) ?_ ?_ ?_); (focus (first | omega | (simp; omega) | (simp; done))); (focus (first | omega | (simp; omega) | (simp; done)))) | omega | (focus (simp; omega)) | (focus (simp; done))))
    · obtain ⟨k, rfl⟩ := Int.eq_ofNat_of_zero_le (Int.not_lt.1 hq0)
      obtain ⟨hn, hv⟩ := read_yes (t := t) (p := p) (a := a) (by rw [← HQ.out]; omega)
      rw [← HQ.out] at hn hv
      obtain ⟨z, hz⟩ : ∃ z, z = lineFor t.lns t.dsk (k : Int) := ⟨_, rfl⟩
      rw [← hz] at hn hv
      have HVN := Lib.hid hv
      have HZ := Lib.hid hz
      have hst := HCS.out
      rcases hst with hst | ⟨hst, -, hq1, -⟩
      · exfalso; omega
      have hdb := (stack_true.1 hst).1
      have hcb := (stack_true.1 hst).2.2
      have HDB := Lib.hid hdb
      have HCB := Lib.hid hcb
      have HST := Lib.hid hst
      clear hst hdb hcb
      obtain ⟨lx, hlx⟩ : ∃ lx, lx = cutL (lruL t.lns z) t.mst := ⟨_, rfl⟩
      obtain ⟨dx, hdx⟩ : ∃ dx, dx = cutD t.dsk (lruL t.lns z) t.mst := ⟨_, rfl⟩
      have HLX := Lib.hid hlx
      have HDX := Lib.hid hdx
      clear hlx hdx
      rw [← HLX.out, ← HDX.out] at hn
      have HN := Lib.hid hn
      have hkd : k < t.dsk.length := by omega
      clear hb1 hn hz hv
      go_wp2_with fail
      refine (copyStack_c _ _ _ _ t _ HR1.out hs).mono ?_
      rintro e w2 ⟨y0, y1, y2, y3, rfl, oc, hb2⟩
      obtain ⟨B0, d0, B1, d1, B2, d2, e0, e1, e2, e3⟩ := id oc.rd.mst
      subst e0 e1 e2 e3
      have N1 := Loc.carryB M1 (fun h => by ((repeat (first | with_reducible exact h | with_reducible refine Loc.drew ?_ | with_reducible refine Loc.drewN ?_ _ | with_reducible refine Loc.alloc ?_ _)); done)) hb2
      have W2 : Hid (Below w.heap.size w w2) := Lib.hid (Below.next (W := w) W1.out hb2)
      have LX := Loc.newAt w2 [.slice B0 t.dsk.length d0, .slice B1 t.prt.length d1, .slice B2 t.lns.length d2, .int .i64 t.mst] 35 (b := w2.heap.size) rfl
      have hz2 := hb2.size
      have zN1 := N1.lt
      have OC := Lib.hid oc
      clear hb2 oc k0 k1 k2 k3 kf
      obtain ⟨k0, k1, k2, k3, kf⟩ := LX.four
      go_wp2_with fail
      refine (specRead_c _ _ t.lns t.mst t.dsk k _ (SRd.below OC.out.slices.2.2.rd (by repeat (first | with_reducible exact Below.refl _ _ | with_reducible refine below_drewN ?_ _ | with_reducible refine Below.drew ?_ | with_reducible refine Below.alloc ?_ ?_ _ | with_reducible refine Below.setCell ?_ ?_ _ | omega | (focus (simp; omega)) | (focus (simp; done))))) (SRd.below OC.out.slices.1.rd (by repeat (first | with_reducible exact Below.refl _ _ | with_reducible refine below_drewN ?_ _ | with_reducible refine Below.drew ?_ | with_reducible refine Below.alloc ?_ ?_ _ | with_reducible refine Below.setCell ?_ ?_ _ | omega | (focus (simp; omega)) | (focus (simp; done))))) HDB.out HCB.out hkd).mono ?_
      rw [← HZ.out, ← HLX.out, ← HDX.out]
      rintro e w3 ⟨y, u, rfl, oy, ou, hap, hb3⟩
      obtain ⟨Ay, cy, gy, rfl, -, -⟩ := id oy
      obtain ⟨Au, cu, gu, rfl, -, -⟩ := id ou
      have P1 := Loc.carryB N1 (fun h => by ((repeat (first | with_reducible exact h | with_reducible refine Loc.drew ?_ | with_reducible refine Loc.drewN ?_ _ | with_reducible refine Loc.alloc ?_ _)); done)) hb3
      have PX := Loc.carryB LX (fun h => by ((repeat (first | with_reducible exact h | with_reducible refine Loc.drew ?_ | with_reducible refine Loc.drewN ?_ _ | with_reducible refine Loc.alloc ?_ _)); done)) hb3
      have W3 : Hid (Below w.heap.size w w3) := Lib.hid (Below.next (W := w) (by repeat (first | with_reducible exact W2.out | with_reducible exact Below.refl _ _ | with_reducible refine below_drewN ?_ _ | with_reducible refine Below.drew ?_ | with_reducible refine Below.alloc ?_ ?_ _ | with_reducible refine Below.setCell ?_ ?_ _ | (with_reducible refine Below.next ?_ (by assumption)) | ((with_reducible refine Below.far' (by assumption) ?_ ?_ ?_); (focus (first | omega | (simp; omega) | (simp; done))); (focus (first | omega | (simp; omega) | (simp; done)))) | omega | (focus (simp; omega)) | (focus (simp; done)))) hb3)
      have OP : Hid (SOwn encPartS tyPartS w1.heap.size w3 w2.heap.size (.slice B1 t.prt.length d1) t.prt) := Lib.hid (SOwn.below OC.out.slices.2.1 (Below.next (W := w2) (by repeat (first | with_reducible exact Below.refl _ _ | with_reducible refine below_drewN ?_ _ | with_reducible refine Below.drew ?_ | with_reducible refine Below.alloc ?_ ?_ _ | with_reducible refine Below.setCell ?_ ?_ _ | omega | (focus (simp; omega)) | (focus (simp; done)))) hb3))
      have LC := Loc.newAt w3 [.slice Ay lx.length cy, .int .i64 t.mst] 33 (b := w3.heap.size) rfl
      obtain ⟨lc0, lc1, lcf⟩ := LC.two
      have hz3 := hb3.size
      (try simp at hz3)
      have zP1 := P1.lt
      have zPX := PX.lt
      have OY : Hid (SOwn encLineS tyLineS (w2.heap.size + 1) w3 w3.heap.size (.slice Ay lx.length cy) lx) := Lib.hid (SOwn.mono oy (by simp) (Nat.le_refl _))
      have OU : Hid (SOwn eInt 3 (w2.heap.size + 1) w3 w3.heap.size (.slice Au dx.length cu) dx) := Lib.hid (SOwn.mono ou (by simp) (Nat.le_refl _))
      have HAP := Lib.hid hap
      clear hb3 oy ou hap k0 k1 k2 k3 kf
      obtain ⟨k0, k1, k2, k3, kf⟩ := PX.four
      obtain ⟨q0, q1, q2, q3, qf⟩ := P1.four
      (go_wp2; go_region; all_goals go_wp2)
      all_goals
        refine bodyPost_ret (v := .tuple #[.int .i64 z.val, .agg #[.slice Au dx.length cu, .slice B1 t.prt.length d1, .slice Ay lx.length cy, .int .i64 t.mst]]) (by simp [results, Try.results26, go_sem, *]; done) rfl ?_
        rw [HVN.out]
        refine ⟨_, _, _, _, rfl, ?_, ?_⟩
        · rw [HN.out]
          exact stackOwn_of (B1 := w2.heap.size + 1) (C1 := w3.heap.size) (B2 := w1.heap.size) (C2 := w2.heap.size) rfl (by repeat (first | with_reducible exact OU.out | with_reducible refine SOwn.drew ?_ | with_reducible refine SOwn.drewN ?_ _ | with_reducible refine SOwn.alloc ?_ _ | (with_reducible refine SOwn.below ?_ (by assumption)) | ((with_reducible refine SOwn.other ?_ ?_ _); rotate_left; (focus (first | omega | (simp; omega) | (simp; done)))))) (by repeat (first | with_reducible exact OP.out | with_reducible refine SOwn.drew ?_ | with_reducible refine SOwn.drewN ?_ _ | with_reducible refine SOwn.alloc ?_ _ | (with_reducible refine SOwn.below ?_ (by assumption)) | ((with_reducible refine SOwn.other ?_ ?_ _); rotate_left; (focus (first | omega | (simp; omega) | (simp; done)))))) (by repeat (first | with_reducible exact OY.out | with_reducible refine SOwn.drew ?_ | with_reducible refine SOwn.drewN ?_ _ | with_reducible refine SOwn.alloc ?_ _ | (with_reducible refine SOwn.below ?_ (by assumption)) | ((with_reducible refine SOwn.other ?_ ?_ _); rotate_left; (focus (first | omega | (simp; omega) | (simp; done)))))) HAP.out (by omega) ⟨by omega, by omega⟩ ⟨by simp, by simp; omega⟩
        · exact (by repeat (first | with_reducible exact W3.out | with_reducible exact Below.refl _ _ | with_reducible refine below_drewN ?_ _ | with_reducible refine Below.drew ?_ | with_reducible refine Below.alloc ?_ ?_ _ | with_reducible refine Below.setCell ?_ ?_ _ | (with_reducible refine Below.next ?_ (by assumption)) | ((with_reducible refine Below.far' (by assumption) ?_ ?_ ?_); (focus (first | omega | (simp; omega) | (simp; done))); (focus (first | omega | (simp; omega) | (simp; done)))) | omega | (focus (simp; omega)) | (focus (simp; done))))
end Go.Proofs.Ytlhbjfjphckifaa
