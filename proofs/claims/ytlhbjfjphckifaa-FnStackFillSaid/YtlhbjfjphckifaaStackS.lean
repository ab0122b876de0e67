/-
  Syncing a stack. Conditions: lengths at most 2^40.
-/
import Derived.Test.YtlhbjfjphckifaaBase
import Derived.Test.YtlhbjfjphckifaaNum
import Derived.Test.YtlhbjfjphckifaaInts
import Derived.Test.YtlhbjfjphckifaaApp
import Derived.Test.YtlhbjfjphckifaaIntsW
import Derived.Test.YtlhbjfjphckifaaLib
import Derived.Test.YtlhbjfjphckifaaSpares
import Derived.Test.YtlhbjfjphckifaaOwn
import Derived.Test.YtlhbjfjphckifaaPart
import Derived.Test.YtlhbjfjphckifaaLine
import Derived.Test.YtlhbjfjphckifaaStack
import Derived.Test.YtlhbjfjphckifaaStackM
import Derived.Test.YtlhbjfjphckifaaStackC
import Derived.Test.YtlhbjfjphckifaaStackF
namespace Go.Proofs.Ytlhbjfjphckifaa
open Go.RowKit
theorem StackRd.parts {w : World} {x0 x1 x2 x3 : Value} {t : Stk} (h : StackRd w [x0, x1, x2, x3] t) : SRd eInt w x0 t.dsk ∧ SRd encPartS w x1 t.prt ∧ SRd encLineS w x2 t.lns := by
  obtain ⟨u, v, y, h1, h2, h3, h4⟩ := h
  simp only [List.cons.injEq, and_true] at h1
  obtain ⟨rfl, rfl, rfl, _⟩ := h1
  exact ⟨h2, h3, h4⟩
theorem apart_nil (v : Value) : Apart (.slice none 0 0) v := fun a n c a' n' c' h => by cases h
theorem stackOwn_zero (B C : Nat) (w : World) : StackOwn B w C [.slice none 0 0, .slice none 0 0, .slice none 0 0, .int .i64 0] zeroStk :=
  ⟨_, _, _, rfl, SOwn.nil0 _ _ _, SOwn.nil0 _ _ _, SOwn.nil0 _ _ _, apart_nil _, apart_nil _, apart_nil _⟩
theorem stackOwn_of {B B1 C1 B2 C2 C : Nat} {w : World} {u v y : Value} {t : Stk} {m : Int} (hm : m = t.mst) (h1 : SOwn eInt 3 B1 w C1 u t.dsk) (h2 : SOwn encPartS tyPartS B2 w C2 v t.prt) (h3 : SOwn encLineS tyLineS B1 w C1 y t.lns) (hap : Apart y u) (hd : C1 ≤ B2 ∨ C2 ≤ B1) (hB : B ≤ B1 ∧ B ≤ B2) (hC : C1 ≤ C ∧ C2 ≤ C) : StackOwn B w C [u, v, y, .int .i64 m] t := by
  subst hm
  exact ⟨u, v, y, rfl, h1.mono hB.1 hC.1, h2.mono hB.2 hC.2, h3.mono hB.1 hC.1, h1.apartOf h2 hd, hap.symm, (h3.apartOf h2 hd).symm⟩
/-- a struct of four cells stored elsewhere -/
def put4 (w : World) (X : Nat) (a b c d : Value) : World := (((w.setCell ⟨X, 0, none⟩ a).setCell ⟨X, 1, none⟩ b).setCell ⟨X, 2, none⟩ c).setCell ⟨X, 3, none⟩ d
theorem put4_cell {w : World} {X Y o : Nat} (a b c d : Value) {p : Value} (hne : X ≠ Y) (h : w.cell? ⟨Y, o, none⟩ = some p) : ((((w.setCell ⟨X, 0, none⟩ a).setCell ⟨X, 1, none⟩ b).setCell ⟨X, 2, none⟩ c).setCell ⟨X, 3, none⟩ d).cell? ⟨Y, o, none⟩ = some p := by
  rw [World.cell?_setCell_far _ _ _ _ hne, World.cell?_setCell_far _ _ _ _ hne, World.cell?_setCell_far _ _ _ _ hne, World.cell?_setCell_far _ _ _ _ hne, h]
theorem sync_no {t : Stk} (h : stackB t = false) : syncS t = zeroStk := by simp [syncS, h]
theorem sync_yes {t : Stk} (h : stackB t = true) : syncS t = ⟨flushD t.dsk t.lns, t.prt, cleanL t.lns, t.mst⟩ := by simp [syncS, h]
set_option maxHeartbeats 4000000 in
theorem implSync_c (x0 x1 x2 x3 : Value) (t : Stk) (w : World) (h : StackRd w [x0, x1, x2, x3] t) (hs : sizeStack t ≤ 1099511627776) :
    Calls Try.prog 20 #[.agg #[x0, x1, x2, x3]] w (MadeStack (syncS t) w) := by
  obtain ⟨A0, c0, A1, c1, A2, c2, e0, e1, e2, e3⟩ := id h.mst
  subst e0 e1 e2 e3
  have HR := Lib.hid h
  have L0 := Loc.new w [.slice A0 t.dsk.length c0, .slice A1 t.prt.length c1, .slice A2 t.lns.length c2, .int .i64 t.mst] 35
  have L1 := Loc.newAt (w.alloc (.cells #[.slice A0 t.dsk.length c0, .slice A1 t.prt.length c1, .slice A2 t.lns.length c2, .int .i64 t.mst] 35)) [.slice none 0 0, .slice none 0 0, .slice none 0 0, .int .i64 0] 35 (b := w.heap.size + 1) (by simp)
  cases hv : stackB t
  · have HV := Lib.hid hv
    have HN := Lib.hid (sync_no hv)
    clear hv
    go_enter Try.func20, Try.ntmps20
    go_wp2_with fail
    refine (implStack_c _ _ _ _ t _ (StackRd.below HR.out (by repeat (first | with_reducible exact Below.refl _ _ | with_reducible refine below_drewN ?_ _ | with_reducible refine Below.drew ?_ | with_reducible refine Below.alloc ?_ ?_ _ | with_reducible refine Below.setCell ?_ ?_ _ | omega | (focus (simp; omega)) | (focus (simp; done))))) hs).mono ?_
    rw [HV.out]
    rintro e w1 ⟨rfl, hb1⟩
    have M1 := Loc.carryB L1 (fun h => by ((repeat (first | with_reducible exact h | with_reducible refine Loc.drew ?_ | with_reducible refine Loc.drewN ?_ _ | with_reducible refine Loc.alloc ?_ _)); done)) hb1
    obtain ⟨m0, m1, m2, m3, mf⟩ := M1.four
    go_wp2
    refine bodyPost_ret (v := .agg #[.slice none 0 0, .slice none 0 0, .slice none 0 0, .int .i64 0]) (by simp [results, Try.results20, go_sem, *]; done) rfl ⟨_, _, _, _, rfl, ?_, ?_⟩
    · rw [HN.out]; exact stackOwn_zero _ _ _
    · exact (by repeat (first | with_reducible exact Below.refl _ _ | with_reducible assumption | with_reducible refine below_drewN ?_ _ | with_reducible refine Below.drew ?_ | with_reducible refine Below.alloc ?_ ?_ _ | with_reducible refine Below.setCell ?_ ?_ _ | (with_reducible refine Below.next ?_ (by assumption)) | omega | (focus (simp; omega)) | (focus (simp; done))))
  · have HV := Lib.hid hv
    have HN := Lib.hid (sync_yes hv)
    have hcv := cache_iff.1 (stack_true.1 hv).2.2
    clear hv
    have hs' := hs
    unfold sizeStack at hs'
    go_enter Try.func20, Try.ntmps20
    go_wp2_with fail
    refine (implStack_c _ _ _ _ t _ (StackRd.below HR.out (by repeat (first | with_reducible exact Below.refl _ _ | with_reducible refine below_drewN ?_ _ | with_reducible refine Below.drew ?_ | with_reducible refine Below.alloc ?_ ?_ _ | with_reducible refine Below.setCell ?_ ?_ _ | omega | (focus (simp; omega)) | (focus (simp; done))))) hs).mono ?_
    rw [HV.out]
    rintro e w1 ⟨rfl, hb1⟩
    have M0 := Loc.carryB L0 (fun h => by ((repeat (first | with_reducible exact h | with_reducible refine Loc.drew ?_ | with_reducible refine Loc.drewN ?_ _ | with_reducible refine Loc.alloc ?_ _)); done)) hb1
    have M1 := Loc.carryB L1 (fun h => by ((repeat (first | with_reducible exact h | with_reducible refine Loc.drew ?_ | with_reducible refine Loc.drewN ?_ _ | with_reducible refine Loc.alloc ?_ _)); done)) hb1
    obtain ⟨k0, k1, k2, k3, kf⟩ := M0.four
    have W1 : Hid (Below w.heap.size w w1) := Lib.hid (Below.next (W := w) (by repeat (first | with_reducible exact Below.refl _ _ | with_reducible refine below_drewN ?_ _ | with_reducible refine Below.drew ?_ | with_reducible refine Below.alloc ?_ ?_ _ | with_reducible refine Below.setCell ?_ ?_ _ | omega | (focus (simp; omega)) | (focus (simp; done)))) hb1)
    have HR1 := Lib.hid (StackRd.below HR.out W1.out)
    have zM0 := M0.lt
    have zM1 := M1.lt
    have hz1 := hb1.size
    (try simp at hz1)
    clear hb1
    go_wp2_with fail
    refine (implFlush_c _ _ t.lns t.mst t.dsk _ HR1.out.parts.2.2 HR1.out.parts.1 hcv).mono ?_
    rintro e w2 ⟨y, u, rfl, oy, ou, hap, hb2⟩
    obtain ⟨Ay, cy, gy, rfl, -, -⟩ := id oy
    obtain ⟨Au, cu, gu, rfl, -, -⟩ := id ou
    have N0 := Loc.carryB M0 (fun h => by ((repeat (first | with_reducible exact h | with_reducible refine Loc.drew ?_ | with_reducible refine Loc.drewN ?_ _ | with_reducible refine Loc.alloc ?_ _)); done)) hb2
    have N1 := Loc.carryB M1 (fun h => by ((repeat (first | with_reducible exact h | with_reducible refine Loc.drew ?_ | with_reducible refine Loc.drewN ?_ _ | with_reducible refine Loc.alloc ?_ _)); done)) hb2
    have W2 : Hid (Below w.heap.size w w2) := Lib.hid (Below.next (W := w) W1.out hb2)
    have HR2 := Lib.hid (StackRd.below HR.out W2.out)
    have LC := Loc.newAt w2 [.slice Ay (cleanL t.lns).length cy, .int .i64 t.mst] 33 (b := w2.heap.size) rfl
    obtain ⟨lc0, lc1, lcf⟩ := LC.two
    have hz2 := hb2.size
    have zN0 := N0.lt
    have zN1 := N1.lt
    have OY := Lib.hid oy
    have OU := Lib.hid ou
    have HAP := Lib.hid hap
    clear hb2 oy ou hap k0 k1 k2 k3 kf
    obtain ⟨k0, k1, k2, k3, kf⟩ := N0.four
    go_wp2
    go_region_held3 (fun w' => w'.cell? ⟨w2.heap.size, 0, none⟩ = some (.slice Ay (cleanL t.lns).length cy) ∧ w'.cell? ⟨w2.heap.size, 1, none⟩ = some (.int .i64 t.mst) ∧ w'.cell? ⟨w.heap.size, 1, none⟩ = some (.slice A1 t.prt.length c1)) (first | (with_reducible assumption) | (refine ⟨?_, ?_, ?_⟩ <;> with_reducible assumption) | (with_reducible refine put4_cell _ _ _ _ ?_ ?_ <;> first | (with_reducible assumption) | omega) | (refine ⟨?_, ?_, ?_⟩ <;> with_reducible refine put4_cell _ _ _ _ ?_ ?_ <;> first | (with_reducible assumption) | omega) | go_keep)
      ((go_at_call 58; go_must ((with_reducible refine (clonePartS_w (.slice A1 t.prt.length c1) t.prt _ (SRd.below HR2.out.parts.2.1 (by repeat (first | with_reducible exact Below.refl _ _ | with_reducible refine below_drewN ?_ _ | with_reducible refine Below.drew ?_ | with_reducible refine Below.alloc ?_ ?_ _ | with_reducible refine Below.setCell ?_ ?_ _ | omega | (focus (simp; omega)) | (focus (simp; done))))) (by omega)).mono ?_); rintro e w3 ⟨v, rfl, ov, hb3⟩; obtain ⟨Av, cv, gv, rfl, -, -⟩ := id ov; have P0 := Loc.carryB N0 (fun h => by ((repeat (first | with_reducible exact h | with_reducible refine Loc.drew ?_ | with_reducible refine Loc.drewN ?_ _ | with_reducible refine Loc.alloc ?_ _)); done)) hb3; have P1 := Loc.carryB N1 (fun h => by ((repeat (first | with_reducible exact h | with_reducible refine Loc.drew ?_ | with_reducible refine Loc.drewN ?_ _ | with_reducible refine Loc.alloc ?_ _)); done)) hb3; have PC := Loc.carryB LC (fun h => by ((repeat (first | with_reducible exact h | with_reducible refine Loc.drew ?_ | with_reducible refine Loc.drewN ?_ _ | with_reducible refine Loc.alloc ?_ _)); done)) hb3; obtain ⟨p0, p1, p2, p3, pf⟩ := P0.four; obtain ⟨q0, q1, q2, q3, qf⟩ := P1.four; obtain ⟨r0, r1, rf⟩ := PC.two; have W3 : Hid (Below w.heap.size w w3) := Lib.hid (Below.next (W := w) (by repeat (first | with_reducible exact W2.out | with_reducible exact Below.refl _ _ | with_reducible refine below_drewN ?_ _ | with_reducible refine Below.drew ?_ | with_reducible refine Below.alloc ?_ ?_ _ | with_reducible refine Below.setCell ?_ ?_ _ | (with_reducible refine Below.next ?_ (by assumption)) | ((with_reducible refine Below.far' (by assumption) ?_ ?_ ?_); (focus (first | omega | (simp; omega) | (simp; done))); (focus (first | omega | (simp; omega) | (simp; done)))) | omega | (focus (simp; omega)) | (focus (simp; done)))) hb3); have hz3 := hb3.size; (try simp at hz3); have OV : Hid (SOwn encPartS tyPartS (w2.heap.size + 1) w3 w3.heap.size (.slice Av t.prt.length cv) t.prt) := Lib.hid (SOwn.mono ov (by simp) (Nat.le_refl _)); have OY3 := Lib.hid (SOwn.below OY.out (Below.next (W := w2) (by repeat (first | with_reducible exact Below.refl _ _ | with_reducible refine below_drewN ?_ _ | with_reducible refine Below.drew ?_ | with_reducible refine Below.alloc ?_ ?_ _ | with_reducible refine Below.setCell ?_ ?_ _ | omega | (focus (simp; omega)) | (focus (simp; done)))) hb3)); have OU3 := Lib.hid (SOwn.below OU.out (Below.next (W := w2) (by repeat (first | with_reducible exact Below.refl _ _ | with_reducible refine below_drewN ?_ _ | with_reducible refine Below.drew ?_ | with_reducible refine Below.alloc ?_ ?_ _ | with_reducible refine Below.setCell ?_ ?_ _ | omega | (focus (simp; omega)) | (focus (simp; done)))) hb3)); have zP1 := P1.lt; have zPC := PC.lt; clear hb3 ov)))
    go_wp2
    refine bodyPost_ret (v := .agg #[.slice Au (flushD t.dsk t.lns).length cu, .slice Av t.prt.length cv, .slice Ay (cleanL t.lns).length cy, .int .i64 t.mst]) (by simp [results, Try.results20, go_sem, q0, q1, q2, q3]; done) rfl ⟨_, _, _, _, rfl, ?_, ?_⟩
    · rw [HN.out]
      exact stackOwn_of (B1 := w1.heap.size) (C1 := w2.heap.size) (B2 := w2.heap.size + 1) (C2 := w3.heap.size) rfl (by repeat (first | with_reducible exact OU3.out | with_reducible refine SOwn.drew ?_ | with_reducible refine SOwn.drewN ?_ _ | with_reducible refine SOwn.alloc ?_ _ | (with_reducible refine SOwn.below ?_ (by assumption)) | ((with_reducible refine SOwn.other ?_ ?_ _); rotate_left; (focus (first | omega | (simp; omega) | (simp; done)))))) (by repeat (first | with_reducible exact OV.out | with_reducible refine SOwn.drew ?_ | with_reducible refine SOwn.drewN ?_ _ | with_reducible refine SOwn.alloc ?_ _ | (with_reducible refine SOwn.below ?_ (by assumption)) | ((with_reducible refine SOwn.other ?_ ?_ _); rotate_left; (focus (first | omega | (simp; omega) | (simp; done)))))) (by repeat (first | with_reducible exact OY3.out | with_reducible refine SOwn.drew ?_ | with_reducible refine SOwn.drewN ?_ _ | with_reducible refine SOwn.alloc ?_ _ | (with_reducible refine SOwn.below ?_ (by assumption)) | ((with_reducible refine SOwn.other ?_ ?_ _); rotate_left; (focus (first | omega | (simp; omega) | (simp; done)))))) HAP.out (by omega) ⟨by omega, by omega⟩ ⟨by simp; omega, by simp⟩
    · exact (by repeat (first | with_reducible exact W3.out | with_reducible exact Below.refl _ _ | with_reducible refine below_drewN ?_ _ | with_reducible refine Below.drew ?_ | with_reducible refine Below.alloc ?_ ?_ _ | with_reducible refine Below.setCell ?_ ?_ _ | (with_reducible refine Below.next ?_ (by assumption)) | ((with_reducible refine Below.far' (by assumption) ?_ ?_ ?_); (focus (first | omega | (simp; omega) | (simp; done))); (focus (first | omega | (simp; omega) | (simp; done)))) | omega | (focus (simp; omega)) | (focus (simp; done))))
end Go.Proofs.Ytlhbjfjphckifaa
