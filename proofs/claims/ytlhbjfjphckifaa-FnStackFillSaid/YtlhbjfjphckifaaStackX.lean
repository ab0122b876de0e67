/-
  Writing a sector of a partition of a stack. Conditions: lengths at most 2^40.
-/
import Derived.Test.YtlhbjfjphckifaaBase
import Derived.Test.YtlhbjfjphckifaaNum
import Derived.Test.YtlhbjfjphckifaaInts
import Derived.Test.YtlhbjfjphckifaaApp
import Derived.Test.YtlhbjfjphckifaaIntsW
import Derived.Test.YtlhbjfjphckifaaLib
import Derived.Test.YtlhbjfjphckifaaSpares
import Derived.Test.YtlhbjfjphckifaaOwn
import Derived.Test.YtlhbjfjphckifaaPart
import Derived.Test.YtlhbjfjphckifaaLine
import Derived.Test.YtlhbjfjphckifaaStack
import Derived.Test.YtlhbjfjphckifaaStackM
import Derived.Test.YtlhbjfjphckifaaStackC
import Derived.Test.YtlhbjfjphckifaaStackF
import Derived.Test.YtlhbjfjphckifaaStackS
import Derived.Test.YtlhbjfjphckifaaStackCp
import Derived.Test.YtlhbjfjphckifaaStackS2
import Derived.Test.YtlhbjfjphckifaaStackU
import Derived.Test.YtlhbjfjphckifaaStackU2
import Derived.Test.YtlhbjfjphckifaaStackR
import Derived.Test.YtlhbjfjphckifaaStackD
import Derived.Test.YtlhbjfjphckifaaStackW
namespace Go.Proofs.Ytlhbjfjphckifaa
open Go.RowKit
theorem write_no1 {t : Stk} {p a : Int} (v : Int) (h : placeB t p a < 0) : writeS t p a v = zeroStk := by
  have : writeOk t p a v = false := by unfold writeOk; rw [decide_eq_false (by omega)]; rfl
  simp [writeS, this]
theorem write_no2 {t : Stk} {p a v : Int} (h : inB v 0 255 = false) : writeS t p a v = zeroStk := by
  have : writeOk t p a v = false := by unfold writeOk; rw [h]; simp
  simp [writeS, this]
theorem write_yes {t : Stk} {p a v : Int} (h : 0 ≤ placeB t p a) (h2 : inB v 0 255 = true) : writeS t p a v = ⟨cutD t.dsk (lruL t.lns ⟨placeB t p a, v, true⟩) t.mst, t.prt, cutL (lruL t.lns ⟨placeB t p a, v, true⟩) t.mst, t.mst⟩ := by
  have : writeOk t p a v = true := by unfold writeOk; rw [h2, decide_eq_true h]; rfl
  simp [writeS, this, usedS]
theorem read_no {t : Stk} {p a : Int} (h : placeB t p a < 0) : readS t p a = zeroStk ∧ readV t p a = -1 := by simp [readS, readV, h]
theorem read_yes {t : Stk} {p a : Int} (h : 0 ≤ placeB t p a) : readS t p a = ⟨cutD t.dsk (lruL t.lns (lineFor t.lns t.dsk (placeB t p a))) t.mst, t.prt, cutL (lruL t.lns (lineFor t.lns t.dsk (placeB t p a))) t.mst, t.mst⟩ ∧ readV t p a = (lineFor t.lns t.dsk (placeB t p a)).val := by
  have : ¬ placeB t p a < 0 := by omega
  simp [readS, readV, this, usedS]
/-- A number and a stack come back. -/
def MadeVStack (v : Int) (t : Stk) (w : World) (en : Ending) (w' : World) : Prop := ∃ y0 y1 y2 y3, en = .returned (.tuple #[.int .i64 v, .agg #[y0, y1, y2, y3]]) ∧ StackOwn w.heap.size w' w'.heap.size [y0, y1, y2, y3] t ∧ Below w.heap.size w w'
set_option maxHeartbeats 4000000 in
theorem implWr_c (x0 x1 x2 x3 : Value) (t : Stk) (p a v : Int) (w : World) (h : StackRd w [x0, x1, x2, x3] t) (hs : sizeStack t ≤ 1099511627776) :
    Calls Try.prog 25 #[.agg #[x0, x1, x2, x3], .int .i64 p, .int .i64 a, .int .i64 v] w (MadeStack (writeS t p a v) w) := by
  obtain ⟨A0, c0, A1, c1, A2, c2, e0, e1, e2, e3⟩ := id h.mst
  subst e0 e1 e2 e3
  have HR := Lib.hid h
  have L0 := Loc.new w [.slice A0 t.dsk.length c0, .slice A1 t.prt.length c1, .slice A2 t.lns.length c2, .int .i64 t.mst] 35
  have L1 := Loc.newAt (w.alloc (.cells #[.slice A0 t.dsk.length c0, .slice A1 t.prt.length c1, .slice A2 t.lns.length c2, .int .i64 t.mst] 35)) [.slice none 0 0, .slice none 0 0, .slice none 0 0, .int .i64 0] 35 (b := w.heap.size + 1) (by simp)
  obtain ⟨q, hq⟩ : ∃ q, q = placeB t p a := ⟨_, rfl⟩
  have hcs := place_cases t p a
  rw [← hq] at hcs
  have HQ := Lib.hid hq
  have HCS := Lib.hid hcs
  have hs' := hs
  unfold sizeStack at hs'
  clear hq hcs
  go_enter Try.func25, Try.ntmps25
  go_wp2_with fail
  refine (implPlace_c _ _ _ _ t p a _ (StackRd.below HR.out (by repeat (first | with_reducible exact Below.refl _ _ | with_reducible refine below_drewN ?_ _ | with_reducible refine Below.drew ?_ | with_reducible refine Below.alloc ?_ ?_ _ | with_reducible refine Below.setCell ?_ ?_ _ | omega | (focus (simp; omega)) | (focus (simp; done))))) hs).mono ?_
  rw [← HQ.out]
  rintro e w1 ⟨rfl, hb1⟩
  have M0 := Loc.carryB L0 (fun h => by ((repeat (first | with_reducible exact h | with_reducible refine Loc.drew ?_ | with_reducible refine Loc.drewN ?_ _ | with_reducible refine Loc.alloc ?_ _)); done)) hb1
  have M1 := Loc.carryB L1 (fun h => by ((repeat (first | with_reducible exact h | with_reducible refine Loc.drew ?_ | with_reducible refine Loc.drewN ?_ _ | with_reducible refine Loc.alloc ?_ _)); done)) hb1
  obtain ⟨k0, k1, k2, k3, kf⟩ := M0.four
  have W1 : Hid (Below w.heap.size w w1) := Lib.hid (Below.next (W := w) (by repeat (first | with_reducible exact Below.refl _ _ | with_reducible refine below_drewN ?_ _ | with_reducible refine Below.drew ?_ | with_reducible refine Below.alloc ?_ ?_ _ | with_reducible refine Below.setCell ?_ ?_ _ | omega | (focus (simp; omega)) | (focus (simp; done)))) hb1)
  have HR1 := Lib.hid (StackRd.below HR.out W1.out)
  have zM0 := M0.lt
  have zM1 := M1.lt
  have hz1 := hb1.size
  (try simp at hz1)
  by_cases hq0 : q < 0
  · have HN := Lib.hid (write_no1 v (by rw [← HQ.out]; exact hq0))
    clear hb1
    obtain ⟨m0, m1, m2, m3, mf⟩ := M1.four
    go_wp2
    refine bodyPost_ret (v := .agg #[.slice none 0 0, .slice none 0 0, .slice none 0 0, .int .i64 0]) (by simp [results, Try.results25, go_sem, *]; done) rfl ?_
    skip
    refine ⟨_, _, _, _, rfl, ?_, ?_⟩
    · rw [HN.out]; exact stackOwn_zero _ _ _
    · exact (by repeat (first | with_reducible exact W1.out | with_reducible exact Below.refl _ _ | with_reducible refine below_drewN ?_ _ | with_reducible refine Below.drew ?_ | with_reducible refine Below.alloc ?_ ?_ _ | with_reducible refine Below.setCell ?_ ?_ _ | (with_reducible refine Below.next ?_ (by assumption)) | ((with_reducible refine Below.far' (by assumption) ?_ ?_ ?_); (focus (first | omega | (simp; omega) | (simp; done))); (focus (first | omega | (simp; omega) | (simp; done)))) | omega | (focus (simp; omega)) | (focus (simp; done))))
  · cases hvv : inB v 0 255
    · have HN := Lib.hid (write_no2 (t := t) (p := p) (a := a) hvv)
      have HVV := Lib.hid hvv
      clear hb1 hvv
      obtain ⟨m0, m1, m2, m3, mf⟩ := M1.four
      go_wp2_with (go_at_call 69; refine (within_any _ _ _ _).mono ?_; rw [HVV.out]; rintro e w' ⟨rfl, rfl⟩)
      refine bodyPost_ret (v := .agg #[.slice none 0 0, .slice none 0 0, .slice none 0 0, .int .i64 0]) (by simp [results, Try.results25, go_sem, *]; done) rfl ?_
      skip
      refine ⟨_, _, _, _, rfl, ?_, ?_⟩
      · rw [HN.out]; exact stackOwn_zero _ _ _
      · exact (by repeat (first | with_reducible exact W1.out | with_reducible exact Below.refl _ _ | with_reducible refine below_drewN ?_ _ | with_reducible refine Below.drew ?_ | with_reducible refine Below.alloc ?_ ?_ _ | with_reducible refine Below.setCell ?_ ?_ _ | (with_reducible refine Below.next ?_ (by assumption)) | ((with_reducible refine Below.far' (by assumption) ?_ ?_ ?_); (focus (first | omega | (simp; omega) | (simp; done))); (focus (first | omega | (simp; omega) | (simp; done)))) | omega | (focus (simp; omega)) | (focus (simp; done))))
    · obtain ⟨k, rfl⟩ := Int.eq_ofNat_of_zero_le (Int.not_lt.1 hq0)
      have hn := write_yes (t := t) (p := p) (a := a) (v := v) (by rw [← HQ.out]; omega) hvv
      rw [← HQ.out] at hn
      have HVV := Lib.hid hvv
      have hst := HCS.out
      rcases hst with hst | ⟨hst, -, hq1, -⟩
      · exfalso; omega
      have hdb := (stack_true.1 hst).1
      have hcb := (stack_true.1 hst).2.2
      have HDB := Lib.hid hdb
      have HCB := Lib.hid hcb
      have HST := Lib.hid hst
      clear hst hdb hcb
      obtain ⟨lx, hlx⟩ : ∃ lx, lx = cutL (lruL t.lns ⟨k, v, true⟩) t.mst := ⟨_, rfl⟩
      obtain ⟨dx, hdx⟩ : ∃ dx, dx = cutD t.dsk (lruL t.lns ⟨k, v, true⟩) t.mst := ⟨_, rfl⟩
      have HLX := Lib.hid hlx
      have HDX := Lib.hid hdx
      clear hlx hdx
      rw [← HLX.out, ← HDX.out] at hn
      have HN := Lib.hid hn
      have hkd : k < t.dsk.length := by omega
      clear hb1 hvv hn
      go_wp2_with (go_at_call 69; refine (within_any _ _ _ _).mono ?_; rw [HVV.out]; rintro e w' ⟨rfl, rfl⟩)
      refine (implCWrite_c _ _ t.lns t.mst t.dsk k v _ HR1.out.parts.2.2 HR1.out.parts.1 HDB.out HCB.out hkd HVV.out).mono ?_
      rw [← HLX.out, ← HDX.out]
      rintro e w2 ⟨y, u, rfl, oy, ou, hap, hb2⟩
      obtain ⟨Ay, cy, gy, rfl, -, -⟩ := id oy
      obtain ⟨Au, cu, gu, rfl, -, -⟩ := id ou
      have N0 := Loc.carryB M0 (fun h => by ((repeat (first | with_reducible exact h | with_reducible refine Loc.drew ?_ | with_reducible refine Loc.drewN ?_ _ | with_reducible refine Loc.alloc ?_ _)); done)) hb2
      have N1 := Loc.carryB M1 (fun h => by ((repeat (first | with_reducible exact h | with_reducible refine Loc.drew ?_ | with_reducible refine Loc.drewN ?_ _ | with_reducible refine Loc.alloc ?_ _)); done)) hb2
      have W2 : Hid (Below w.heap.size w w2) := Lib.hid (Below.next (W := w) W1.out hb2)
      have HR2 := Lib.hid (StackRd.below HR.out W2.out)
      have LC := Loc.newAt w2 [.slice Ay lx.length cy, .int .i64 t.mst] 33 (b := w2.heap.size) rfl
      obtain ⟨lc0, lc1, lcf⟩ := LC.two
      have hz2 := hb2.size
      have zN0 := N0.lt
      have zN1 := N1.lt
      have OY := Lib.hid oy
      have OU := Lib.hid ou
      have HAP := Lib.hid hap
      clear hb2 oy ou hap k0 k1 k2 k3 kf
      obtain ⟨k0, k1, k2, k3, kf⟩ := N0.four
      go_wp2
      go_region_held3 (fun w' => w'.cell? ⟨w2.heap.size, 0, none⟩ = some (.slice Ay lx.length cy) ∧ w'.cell? ⟨w2.heap.size, 1, none⟩ = some (.int .i64 t.mst) ∧ w'.cell? ⟨w.heap.size, 1, none⟩ = some (.slice A1 t.prt.length c1)) (first | (with_reducible assumption) | (refine ⟨?_, ?_, ?_⟩ <;> with_reducible assumption) | (with_reducible refine put4_cell _ _ _ _ ?_ ?_ <;> first | (with_reducible assumption) | omega) | (refine ⟨?_, ?_, ?_⟩ <;> with_reducible refine put4_cell _ _ _ _ ?_ ?_ <;> first | (with_reducible assumption) | omega) | go_keep)
        ((go_at_call 58; go_must ((with_reducible refine (clonePartS_w (.slice A1 t.prt.length c1) t.prt _ (SRd.below HR2.out.parts.2.1 (by repeat (first | with_reducible exact Below.refl _ _ | with_reducible refine below_drewN ?_ _ | with_reducible refine Below.drew ?_ | with_reducible refine Below.alloc ?_ ?_ _ | with_reducible refine Below.setCell ?_ ?_ _ | omega | (focus (simp; omega)) | (focus (simp; done))))) (by omega)).mono ?_); rintro e w3 ⟨v3, rfl, ov, hb3⟩; obtain ⟨Av, cv, gv, rfl, -, -⟩ := id ov; have P0 := Loc.carryB N0 (fun h => by ((repeat (first | with_reducible exact h | with_reducible refine Loc.drew ?_ | with_reducible refine Loc.drewN ?_ _ | with_reducible refine Loc.alloc ?_ _)); done)) hb3; have P1 := Loc.carryB N1 (fun h => by ((repeat (first | with_reducible exact h | with_reducible refine Loc.drew ?_ | with_reducible refine Loc.drewN ?_ _ | with_reducible refine Loc.alloc ?_ _)); done)) hb3; have PC := Loc.carryB LC (fun h => by ((repeat (first | with_reducible exact h | with_reducible refine Loc.drew ?_ | with_reducible refine Loc.drewN ?_ _ | with_reducible refine Loc.alloc ?_ _)); done)) hb3; obtain ⟨p0, p1, p2, p3, pf⟩ := P0.four; obtain ⟨q0, q1, q2, q3, qf⟩ := P1.four; obtain ⟨r0, r1, rf⟩ := PC.two; have W3 : Hid (Below w.heap.size w w3) := Lib.hid (Below.next (W := w) (by repeat (first | with_reducible exact W2.out | with_reducible exact Below.refl _ _ | with_reducible refine below_drewN ?_ _ | with_reducible refine Below.drew ?_ | with_reducible refine Below.alloc ?_ ?_ _ | with_reducible refine Below.setCell ?_ ?_ _ | (with_reducible refine Below.next ?_ (by assumption)) | ((with_reducible refine Below.far' (by assumption) ?_ ?_ ?_); (focus (first | omega | (simp; omega) | (simp; done))); (focus (first | omega | (simp; omega) | (simp; done)))) | omega | (focus (simp; omega)) | (focus (simp; done)))) hb3); have hz3 := hb3.size; (try simp at hz3); have OV : Hid (SOwn encPartS tyPartS (w2.heap.size + 1) w3 w3.heap.size (.slice Av t.prt.length cv) t.prt) := Lib.hid (SOwn.mono ov (by simp) (Nat.le_refl _)); have OY3 := Lib.hid (SOwn.below OY.out (Below.next (W := w2) (by repeat (first | with_reducible exact Below.refl _ _ | with_reducible refine below_drewN ?_ _ | with_reducible refine Below.drew ?_ | with_reducible refine Below.alloc ?_ ?_ _ | with_reducible refine Below.setCell ?_ ?_ _ | omega | (focus (simp; omega)) | (focus (simp; done)))) hb3)); have OU3 := Lib.hid (SOwn.below OU.out (Below.next (W := w2) (by repeat (first | with_reducible exact Below.refl _ _ | with_reducible refine below_drewN ?_ _ | with_reducible refine Below.drew ?_ | with_reducible refine Below.alloc ?_ ?_ _ | with_reducible refine Below.setCell ?_ ?_ _ | omega | (focus (simp; omega)) | (focus (simp; done)))) hb3)); have zP1 := P1.lt; have zPC := PC.lt; clear hb3 ov)))
      all_goals
        go_wp2
        refine bodyPost_ret (v := .agg #[.slice Au dx.length cu, .slice Av t.prt.length cv, .slice Ay lx.length cy, .int .i64 t.mst]) (by simp [results, Try.results25, go_sem, q0, q1, q2, q3]; done) rfl ?_
        skip
        refine ⟨_, _, _, _, rfl, ?_, ?_⟩
        · rw [HN.out]
          exact stackOwn_of (B1 := w1.heap.size) (C1 := w2.heap.size) (B2 := w2.heap.size + 1) (C2 := w3.heap.size) rfl (by repeat (first | with_reducible exact OU3.out | with_reducible refine SOwn.drew ?_ | with_reducible refine SOwn.drewN ?_ _ | with_reducible refine SOwn.alloc ?_ _ | (with_reducible refine SOwn.below ?_ (by assumption)) | ((with_reducible refine SOwn.other ?_ ?_ _); rotate_left; (focus (first | omega | (simp; omega) | (simp; done)))))) (by repeat (first | with_reducible exact OV.out | with_reducible refine SOwn.drew ?_ | with_reducible refine SOwn.drewN ?_ _ | with_reducible refine SOwn.alloc ?_ _ | (with_reducible refine SOwn.below ?_ (by assumption)) | ((with_reducible refine SOwn.other ?_ ?_ _); rotate_left; (focus (first | omega | (simp; omega) | (simp; done)))))) (by repeat (first | with_reducible exact OY3.out | with_reducible refine SOwn.drew ?_ | with_reducible refine SOwn.drewN ?_ _ | with_reducible refine SOwn.alloc ?_ _ | (with_reducible refine SOwn.below ?_ (by assumption)) | ((with_reducible refine SOwn.other ?_ ?_ _); rotate_left; (focus (first | omega | (simp; omega) | (simp; done)))))) HAP.out (by omega) ⟨by omega, by omega⟩ ⟨by simp; omega, by simp⟩
        · exact (by repeat (first | with_reducible exact W3.out | with_reducible exact Below.refl _ _ | with_reducible refine below_drewN ?_ _ | with_reducible refine Below.drew ?_ | with_reducible refine Below.alloc ?_ ?_ _ | with_reducible refine Below.setCell ?_ ?_ _ | (with_reducible refine Below.next ?_ (by assumption)) | ((with_reducible refine Below.far' (by assumption) ?_ ?_ ?_); (focus (first | omega | (simp; omega) | (simp; done))); (focus (first | omega | (simp; omega) | (simp; done)))) | omega | (focus (simp; omega)) | (focus (simp; done))))
set_option maxHeartbeats 4000000 in
theorem implRd_c (x0 x1 x2 x3 : Value) (t : Stk) (p a : Int) (w : World) (h : StackRd w [x0, x1, x2, x3] t) (hs : sizeStack t ≤ 1099511627776) :
    Calls Try.prog 27 #[.agg #[x0, x1, x2, x3], .int .i64 p, .int .i64 a] w (MadeVStack (readV t p a) (readS t p a) w) := by
  obtain ⟨A0, c0, A1, c1, A2, c2, e0, e1, e2, e3⟩ := id h.mst
  subst e0 e1 e2 e3
  have HR := Lib.hid h
  have L0 := Loc.new w [.slice A0 t.dsk.length c0, .slice A1 t.prt.length c1, .slice A2 t.lns.length c2, .int .i64 t.mst] 35
  have L1 := Loc.newAt (w.alloc (.cells #[.slice A0 t.dsk.length c0, .slice A1 t.prt.length c1, .slice A2 t.lns.length c2, .int .i64 t.mst] 35)) [.slice none 0 0, .slice none 0 0, .slice none 0 0, .int .i64 0] 35 (b := w.heap.size + 1) (by simp)
  obtain ⟨q, hq⟩ : ∃ q, q = placeB t p a := ⟨_, rfl⟩
  have hcs := place_cases t p a
  rw [← hq] at hcs
  have HQ := Lib.hid hq
  have HCS := Lib.hid hcs
  have hs' := hs
  unfold sizeStack at hs'
  clear hq hcs
  go_enter Try.func27, Try.ntmps27
  go_wp2_with fail
  refine (implPlace_c _ _ _ _ t p a _ (StackRd.below HR.out (by repeat (first | with_reducible exact Below.refl _ _ | with_reducible refine below_drewN ?_ _ | with_reducible refine Below.drew ?_ | with_reducible refine Below.alloc ?_ ?_ _ | with_reducible refine Below.setCell ?_ ?_ _ | omega | (focus (simp; omega)) | (focus (simp; done))))) hs).mono ?_
  rw [← HQ.out]
  rintro e w1 ⟨rfl, hb1⟩
  have M0 := Loc.carryB L0 (fun h => by ((repeat (first | with_reducible exact h | with_reducible refine Loc.drew ?_ | with_reducible refine Loc.drewN ?_ _ | with_reducible refine Loc.alloc ?_ _)); done)) hb1
  have M1 := Loc.carryB L1 (fun h => by ((repeat (first | with_reducible exact h | with_reducible refine Loc.drew ?_ | with_reducible refine Loc.drewN ?_ _ | with_reducible refine Loc.alloc ?_ _)); done)) hb1
  obtain ⟨k0, k1, k2, k3, kf⟩ := M0.four
  have W1 : Hid (Below w.heap.size w w1) := Lib.hid (Below.next (W := w) (by repeat (first | with_reducible exact Below.refl _ _ | with_reducible refine below_drewN ?_ _ | with_reducible refine Below.drew ?_ | with_reducible refine Below.alloc ?_ ?_ _ | with_reducible refine Below.setCell ?_ ?_ _ | omega | (focus (simp; omega)) | (focus (simp; done)))) hb1)
  have HR1 := Lib.hid (StackRd.below HR.out W1.out)
  have zM0 := M0.lt
  have zM1 := M1.lt
  have hz1 := hb1.size
  (try simp at hz1)
  by_cases hq0 : q < 0
  · have HN := Lib.hid (read_no (by rw [← HQ.out]; exact hq0)).1
    have HVN := Lib.hid (read_no (t := t) (p := p) (a := a) (by rw [← HQ.out]; exact hq0)).2
    clear hb1
    obtain ⟨m0, m1, m2, m3, mf⟩ := M1.four
    go_wp2
    refine bodyPost_ret (v := .tuple #[.int .i64 (-1), .agg #[.slice none 0 0, .slice none 0 0, .slice none 0 0, .int .i64 0]]) (by simp [results, Try.results27, go_sem, *]; done) rfl ?_
    rw [HVN.out]
    refine ⟨_, _, _, _, rfl, ?_, ?_⟩
    · rw [HN.out]; exact stackOwn_zero _ _ _
    · exact (by repeat (first | with_reducible exact W1.out | with_reducible exact Below.refl _ _ | with_reducible refine below_drewN ?_ _ | with_reducible refine Below.drew ?_ | with_reducible refine Below.alloc ?_ ?_ _ | with_reducible refine Below.setCell ?_ ?_ _ | (with_reducible refine Below.next ?_ (by assumption)) | ((with_reducible refine Below.far' (by assumption) ?_ ?_ ?_); (focus (first | omega | (simp; omega) | (simp; done))); (focus (first | omega | (simp; omega) | (simp; done)))) | omega | (focus (simp; omega)) | (focus (simp; done))))
  · obtain ⟨k, rfl⟩ := Int.eq_ofNat_of_zero_le (Int.not_lt.1 hq0)
    obtain ⟨hn, hv⟩ := read_yes (t := t) (p := p) (a := a) (by rw [← HQ.out]; omega)
    rw [← HQ.out] at hn hv
    obtain ⟨z, hz⟩ : ∃ z, z = lineFor t.lns t.dsk (k : Int) := ⟨_, rfl⟩
    rw [← hz] at hn hv
    have HVN := Lib.hid hv
    have HZ := Lib.hid hz
    have hst := HCS.out
    rcases hst with hst | ⟨hst, -, hq1, -⟩
    · exfalso; omega
    have hdb := (stack_true.1 hst).1
    have hcb := (stack_true.1 hst).2.2
    have HDB := Lib.hid hdb
    have HCB := Lib.hid hcb
    have HST := Lib.hid hst
    clear hst hdb hcb
    obtain ⟨lx, hlx⟩ : ∃ lx, lx = cutL (lruL t.lns z) t.mst := ⟨_, rfl⟩
    obtain ⟨dx, hdx⟩ : ∃ dx, dx = cutD t.dsk (lruL t.lns z) t.mst := ⟨_, rfl⟩
    have HLX := Lib.hid hlx
    have HDX := Lib.hid hdx
    clear hlx hdx
    rw [← HLX.out, ← HDX.out] at hn
    have HN := Lib.hid hn
    have hkd : k < t.dsk.length := by omega
    clear hb1 hn hz hv
    go_wp2_with fail
    refine (implRead_c _ _ t.lns t.mst t.dsk k _ HR1.out.parts.2.2 HR1.out.parts.1 HDB.out HCB.out hkd).mono ?_
    rw [← HZ.out, ← HLX.out, ← HDX.out]
    rintro e w2 ⟨y, u, rfl, oy, ou, hap, hb2⟩
    obtain ⟨Ay, cy, gy, rfl, -, -⟩ := id oy
    obtain ⟨Au, cu, gu, rfl, -, -⟩ := id ou
    have N0 := Loc.carryB M0 (fun h => by ((repeat (first | with_reducible exact h | with_reducible refine Loc.drew ?_ | with_reducible refine Loc.drewN ?_ _ | with_reducible refine Loc.alloc ?_ _)); done)) hb2
    have N1 := Loc.carryB M1 (fun h => by ((repeat (first | with_reducible exact h | with_reducible refine Loc.drew ?_ | with_reducible refine Loc.drewN ?_ _ | with_reducible refine Loc.alloc ?_ _)); done)) hb2
    have W2 : Hid (Below w.heap.size w w2) := Lib.hid (Below.next (W := w) W1.out hb2)
    have HR2 := Lib.hid (StackRd.below HR.out W2.out)
    have LC := Loc.newAt w2 [.slice Ay lx.length cy, .int .i64 t.mst] 33 (b := w2.heap.size) rfl
    obtain ⟨lc0, lc1, lcf⟩ := LC.two
    have hz2 := hb2.size
    have zN0 := N0.lt
    have zN1 := N1.lt
    have OY := Lib.hid oy
    have OU := Lib.hid ou
    have HAP := Lib.hid hap
    clear hb2 oy ou hap k0 k1 k2 k3 kf
    obtain ⟨k0, k1, k2, k3, kf⟩ := N0.four
    go_wp2
    go_region_held3 (fun w' => w'.cell? ⟨w2.heap.size, 0, none⟩ = some (.slice Ay lx.length cy) ∧ w'.cell? ⟨w2.heap.size, 1, none⟩ = some (.int .i64 t.mst) ∧ w'.cell? ⟨w.heap.size, 1, none⟩ = some (.slice A1 t.prt.length c1)) (first | (with_reducible assumption) | (refine ⟨?_, ?_, ?_⟩ <;> with_reducible assumption) | (with_reducible refine put4_cell _ _ _ _ ?_ ?_ <;> first | (with_reducible assumption) | omega) | (refine ⟨?_, ?_, ?_⟩ <;> with_reducible refine put4_cell _ _ _ _ ?_ ?_ <;> first | (with_reducible assumption) | omega) | go_keep)
      ((go_at_call 58; go_must ((with_reducible refine (clonePartS_w (.slice A1 t.prt.length c1) t.prt _ (SRd.below HR2.out.parts.2.1 (by repeat (first | with_reducible exact Below.refl _ _ | with_reducible refine below_drewN ?_ _ | with_reducible refine Below.drew ?_ | with_reducible refine Below.alloc ?_ ?_ _ | with_reducible refine Below.setCell ?_ ?_ _ | omega | (focus (simp; omega)) | (focus (simp; done))))) (by omega)).mono ?_); rintro e w3 ⟨v3, rfl, ov, hb3⟩; obtain ⟨Av, cv, gv, rfl, -, -⟩ := id ov; have P0 := Loc.carryB N0 (fun h => by ((repeat (first | with_reducible exact h | with_reducible refine Loc.drew ?_ | with_reducible refine Loc.drewN ?_ _ | with_reducible refine Loc.alloc ?_ _)); done)) hb3; have P1 := Loc.carryB N1 (fun h => by ((repeat (first | with_reducible exact h | with_reducible refine Loc.drew ?_ | with_reducible refine Loc.drewN ?_ _ | with_reducible refine Loc.alloc ?_ _)); done)) hb3; have PC := Loc.carryB LC (fun h => by ((repeat (first | with_reducible exact h | with_reducible refine Loc.drew ?_ | with_reducible refine Loc.drewN ?_ _ | with_reducible refine Loc.alloc ?_ _)); done)) hb3; obtain ⟨p0, p1, p2, p3, pf⟩ := P0.four; obtain ⟨q0, q1, q2, q3, qf⟩ := P1.four; obtain ⟨r0, r1, rf⟩ := PC.two; have W3 : Hid (Below w.heap.size w w3) := Lib.hid (Below.next (W := w) (by repeat (first | with_reducible exact W2.out | with_reducible exact Below.refl _ _ | with_reducible refine below_drewN ?_ _ | with_reducible refine Below.drew ?_ | with_reducible refine Below.alloc ?_ ?_ _ | with_reducible refine Below.setCell ?_ ?_ _ | (with_reducible refine Below.next ?_ (by assumption)) | ((with_reducible refine Below.far' (by assumption) ?_ ?_ ?_); (focus (first | omega | (simp; omega) | (simp; done))); (focus (first | omega | (simp; omega) | (simp; done)))) | omega | (focus (simp; omega)) | (focus (simp; done)))) hb3); have hz3 := hb3.size; (try simp at hz3); have OV : Hid (SOwn encPartS tyPartS (w2.heap.size + 1) w3 w3.heap.size (.slice Av t.prt.length cv) t.prt) := Lib.hid (SOwn.mono ov (by simp) (Nat.le_refl _)); have OY3 := Lib.hid (SOwn.below OY.out (Below.next (W := w2) (by repeat (first | with_reducible exact Below.refl _ _ | with_reducible refine below_drewN ?_ _ | with_reducible refine Below.drew ?_ | with_reducible refine Below.alloc ?_ ?_ _ | with_reducible refine Below.setCell ?_ ?_ _ | omega | (focus (simp; omega)) | (focus (simp; done)))) hb3)); have OU3 := Lib.hid (SOwn.below OU.out (Below.next (W := w2) (by repeat (first | with_reducible exact Below.refl _ _ | with_reducible refine below_drewN ?_ _ | with_reducible refine Below.drew ?_ | with_reducible refine Below.alloc ?_ ?_ _ | with_reducible refine Below.setCell ?_ ?_ _ | omega | (focus (simp; omega)) | (focus (simp; done)))) hb3)); have zP1 := P1.lt; have zPC := PC.lt; clear hb3 ov)))
    all_goals
      go_wp2
      refine bodyPost_ret (v := .tuple #[.int .i64 z.val, .agg #[.slice Au dx.length cu, .slice Av t.prt.length cv, .slice Ay lx.length cy, .int .i64 t.mst]]) (by simp [results, Try.results27, go_sem, q0, q1, q2, q3]; done) rfl ?_
      rw [HVN.out]
      refine ⟨_, _, _, _, rfl, ?_, ?_⟩
      · rw [HN.out]
        exact stackOwn_of (B1 := w1.heap.size) (C1 := w2.heap.size) (B2 := w2.heap.size + 1) (C2 := w3.heap.size) rfl (by repeat (first | with_reducible exact OU3.out | with_reducible refine SOwn.drew ?_ | with_reducible refine SOwn.drewN ?_ _ | with_reducible refine SOwn.alloc ?_ _ | (with_reducible refine SOwn.below ?_ (by assumption)) | ((with_reducible refine SOwn.other ?_ ?_ _); rotate_left; (focus (first | omega | (simp; omega) | (simp; done)))))) (by repeat (first | with_reducible exact OV.out | with_reducible refine SOwn.drew ?_ | with_reducible refine SOwn.drewN ?_ _ | with_reducible refine SOwn.alloc ?_ _ | (with_reducible refine SOwn.below ?_ (by assumption)) | ((with_reducible refine SOwn.other ?_ ?_ _); rotate_left; (focus (first | omega | (simp; omega) | (simp; done)))))) (by repeat (first | with_reducible exact OY3.out | with_reducible refine SOwn.drew ?_ | with_reducible refine SOwn.drewN ?_ _ | with_reducible refine SOwn.alloc ?_ _ | (with_reducible refine SOwn.below ?_ (by assumption)) | ((with_reducible refine SOwn.other ?_ ?_ _); rotate_left; (focus (first | omega | (simp; omega) | (simp; done)))))) HAP.out (by omega) ⟨by omega, by omega⟩ ⟨by simp; omega, by simp⟩
      · exact (by repeat (first | with_reducible exact W3.out | with_reducible exact Below.refl _ _ | with_reducible refine below_drewN ?_ _ | with_reducible refine Below.drew ?_ | with_reducible refine Below.alloc ?_ ?_ _ | with_reducible refine Below.setCell ?_ ?_ _ | (with_reducible refine Below.next ?_ (by assumption)) | ((with_reducible refine Below.far' (by assumption) ?_ ?_ ?_); (focus (first | omega | (simp; omega) | (simp; done))); (focus (first | omega | (simp; omega) | (simp; done)))) | omega | (focus (simp; omega)) | (focus (simp; done))))
end Go.Proofs.Ytlhbjfjphckifaa
