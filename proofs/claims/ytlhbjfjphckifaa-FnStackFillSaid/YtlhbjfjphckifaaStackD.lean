/-
  The place of a sector of a partition. Conditions: lengths at most 2^40.
-/
import Derived.Test.YtlhbjfjphckifaaBase
import Derived.Test.YtlhbjfjphckifaaNum
import Derived.Test.YtlhbjfjphckifaaInts
import Derived.Test.YtlhbjfjphckifaaApp
import Derived.Test.YtlhbjfjphckifaaIntsW
import Derived.Test.YtlhbjfjphckifaaLib
import Derived.Test.YtlhbjfjphckifaaSpares
import Derived.Test.YtlhbjfjphckifaaOwn
import Derived.Test.YtlhbjfjphckifaaPart
import Derived.Test.YtlhbjfjphckifaaLine
import Derived.Test.YtlhbjfjphckifaaStack
import Derived.Test.YtlhbjfjphckifaaStackM
import Derived.Test.YtlhbjfjphckifaaStackC
import Derived.IntWalk
namespace Go.Proofs.Ytlhbjfjphckifaa
open Go.RowKit
theorem within_k {f : FuncId} (h : ∀ (n lo hi : Int) (w : World), Calls Try.prog f #[.int .i64 n, .int .i64 lo, .int .i64 hi] w fun e w' => e = .returned (.bool (inB n lo hi)) ∧ w = w') (n lo hi : Int) (w : World) : Calls Try.prog f #[.int .i64 n, .int .i64 lo, .int .i64 hi] w fun e w' => e = .returned (.bool (inB n lo hi)) ∧ w = w' := h n lo hi w
set_option maxHeartbeats 4000000 in
theorem implToDisk_c (A : Option Addr) (c : Nat) (l : List Pt) (n p a : Int) (w : World) (ha : Rd encPartS w A l) (hl : l.length ≤ 1099511627776) (hn : -9223372036854775808 ≤ n ∧ n ≤ 9223372036854775807) :
    Calls Try.prog 100 #[.slice A l.length c, .int .i64 n, .int .i64 p, .int .i64 a] w fun e w' => e = .returned (.int .i64 (toDiskB l n p a)) ∧ Below w.heap.size w w' := by
  have hn' : -9223372036854775808 ≤ n ∧ n ≤ 9223372036854775807 := hn
  cases h1 : partsB l n
  · have H1 := Lib.hid h1
    clear h1
    go_enter Try.func100, Try.ntmps100
    go_wp2_with fail
    refine (implParts_c A c l n _ ha hl hn').mono ?_
    rw [H1.out]
    rintro e w1 ⟨rfl, hb1⟩
    go_wp2
    go_ret
    exact ⟨ret_int (toDisk_no1 H1.out).symm, (by repeat (first | with_reducible exact Below.refl _ _ | with_reducible assumption | with_reducible refine below_drewN ?_ _ | with_reducible refine Below.drew ?_ | with_reducible refine Below.alloc ?_ ?_ _ | with_reducible refine Below.setCell ?_ ?_ _ | (with_reducible refine Below.next ?_ (by assumption)) | omega | (focus (simp; omega)) | (focus (simp; done))))⟩
  · have H1 := Lib.hid h1
    obtain ⟨q1, q2, q3⟩ := parts_true.1 h1
    obtain ⟨n0, n1⟩ := inB_true.1 q2
    clear h1 q2
    cases h2 : inB p 0 (l.length - 1)
    · have H2 := Lib.hid h2
      clear h2
      go_enter Try.func100, Try.ntmps100
      go_wp2_with fail
      refine (implParts_c A c l n _ ha hl hn').mono ?_
      rw [H1.out]
      rintro e w1 ⟨rfl, hb1⟩
      go_wp2_with (go_at_call 69; refine (within_any _ _ _ _).mono ?_; rw [H2.out]; rintro e w' ⟨rfl, rfl⟩)
      go_ret
      exact ⟨ret_int (toDisk_no2 H2.out).symm, (by repeat (first | with_reducible exact Below.refl _ _ | with_reducible assumption | with_reducible refine below_drewN ?_ _ | with_reducible refine Below.drew ?_ | with_reducible refine Below.alloc ?_ ?_ _ | with_reducible refine Below.setCell ?_ ?_ _ | (with_reducible refine Below.next ?_ (by assumption)) | omega | (focus (simp; omega)) | (focus (simp; done))))⟩
    · obtain ⟨a1, a2⟩ := inB_true.1 h2
      have H2 := Lib.hid h2
      obtain ⟨k, rfl⟩ := Int.eq_ofNat_of_zero_le a1
      have hk : k < l.length := by omega
      have hg := partsGo_get (Int.le_refl 0) q3 k hk
      clear h2 q3
      have hno := fun h => toDisk_no3 (l := l) (n := n) (p := k) (a := a) hk h
      have hyes := fun h => toDisk_yes (l := l) (n := n) (p := k) (a := a) H1.out hk h
      have HNO := Lib.hid hno
      have HYES := Lib.hid hyes
      clear hno hyes
      go_enter Try.func100, Try.ntmps100
      go_wp2_with fail
      refine (implParts_c A c l n _ ha hl hn').mono ?_
      rw [H1.out]
      rintro e w1 ⟨rfl, hb1⟩
      obtain ⟨b, off, rfl, hbl, hc, hc2⟩ := (Rd.below ha hb1).rPartS hk
      obtain ⟨y, hy⟩ : ∃ y, y = l[k]'hk := ⟨_, rfl⟩
      rw [← hy] at hc hc2 hg
      rw [← hy] at HNO HYES
      clear hy
      obtain ⟨yf, yc⟩ := y
      simp only at hc hc2 hg HNO HYES
      obtain ⟨g1, g2, g3, g4⟩ := hg
      have hw1 := IntWalk.i64_in (yc - 1) (by omega)
      have hw0 := IntWalk.i64_in ((l.length : Int) - 1) (by omega)
      cases h3 : inB a 0 (yc - 1)
      · have H3 := Lib.hid h3
        clear h3
        go_wp2_with (go_at_call 69; (first | (with_reducible refine (within_k within_any a 0 (yc - 1) _).mono ?_; rw [H3.out]; rintro e w' ⟨rfl, rfl⟩) | (with_reducible refine (within_k within_any (k : Int) 0 (l.length - 1) _).mono ?_; rw [H2.out]; rintro e w' ⟨rfl, rfl⟩)))
        go_ret
        exact ⟨ret_int (HNO.out H3.out).symm, (by repeat (first | with_reducible exact Below.refl _ _ | with_reducible assumption | with_reducible refine below_drewN ?_ _ | with_reducible refine Below.drew ?_ | with_reducible refine Below.alloc ?_ ?_ _ | with_reducible refine Below.setCell ?_ ?_ _ | (with_reducible refine Below.next ?_ (by assumption)) | omega | (focus (simp; omega)) | (focus (simp; done))))⟩
      · obtain ⟨c1, c2⟩ := inB_true.1 h3
        have H3 := Lib.hid h3
        have hw2 := IntWalk.i64_in (yf + a) (by omega)
        clear h3
        go_wp2_with (go_at_call 69; (first | (with_reducible refine (within_k within_any a 0 (yc - 1) _).mono ?_; rw [H3.out]; rintro e w' ⟨rfl, rfl⟩) | (with_reducible refine (within_k within_any (k : Int) 0 (l.length - 1) _).mono ?_; rw [H2.out]; rintro e w' ⟨rfl, rfl⟩)))
        go_ret
        exact ⟨ret_int (HYES.out H3.out).symm, (by repeat (first | with_reducible exact Below.refl _ _ | with_reducible assumption | with_reducible refine below_drewN ?_ _ | with_reducible refine Below.drew ?_ | with_reducible refine Below.alloc ?_ ?_ _ | with_reducible refine Below.setCell ?_ ?_ _ | (with_reducible refine Below.next ?_ (by assumption)) | omega | (focus (simp; omega)) | (focus (simp; done))))⟩
set_option maxHeartbeats 4000000 in
theorem specToDisk_c (A : Option Addr) (c : Nat) (l : List Pt) (n p a : Int) (w : World) (ha : Rd encPartS w A l) (hl : l.length ≤ 1099511627776) (hn : -9223372036854775808 ≤ n ∧ n ≤ 9223372036854775807) :
    Calls Try.prog 66 #[.slice A l.length c, .int .i64 n, .int .i64 p, .int .i64 a] w fun e w' => e = .returned (.int .i64 (toDiskB l n p a)) ∧ Below w.heap.size w w' := by
  have hn' : -9223372036854775808 ≤ n ∧ n ≤ 9223372036854775807 := hn
  cases h1 : partsB l n
  · have H1 := Lib.hid h1
    clear h1
    go_enter Try.func66, Try.ntmps66
    go_wp2_with fail
    refine (specParts_b A c l n _ ha hl hn').mono ?_
    rw [H1.out]
    rintro e w1 ⟨rfl, hb1⟩
    go_wp2
    go_ret
    exact ⟨ret_int (toDisk_no1 H1.out).symm, (by repeat (first | with_reducible exact Below.refl _ _ | with_reducible assumption | with_reducible refine below_drewN ?_ _ | with_reducible refine Below.drew ?_ | with_reducible refine Below.alloc ?_ ?_ _ | with_reducible refine Below.setCell ?_ ?_ _ | (with_reducible refine Below.next ?_ (by assumption)) | omega | (focus (simp; omega)) | (focus (simp; done))))⟩
  · have H1 := Lib.hid h1
    obtain ⟨q1, q2, q3⟩ := parts_true.1 h1
    obtain ⟨n0, n1⟩ := inB_true.1 q2
    clear h1 q2
    cases h2 : inB p 0 (l.length - 1)
    · have H2 := Lib.hid h2
      clear h2
      go_enter Try.func66, Try.ntmps66
      go_wp2_with fail
      refine (specParts_b A c l n _ ha hl hn').mono ?_
      rw [H1.out]
      rintro e w1 ⟨rfl, hb1⟩
      go_wp2_with (go_at_call 65; refine (l1In_any _ _ _ _).mono ?_; rw [H2.out]; rintro e w' ⟨rfl, rfl⟩)
      go_ret
      exact ⟨ret_int (toDisk_no2 H2.out).symm, (by repeat (first | with_reducible exact Below.refl _ _ | with_reducible assumption | with_reducible refine below_drewN ?_ _ | with_reducible refine Below.drew ?_ | with_reducible refine Below.alloc ?_ ?_ _ | with_reducible refine Below.setCell ?_ ?_ _ | (with_reducible refine Below.next ?_ (by assumption)) | omega | (focus (simp; omega)) | (focus (simp; done))))⟩
    · obtain ⟨a1, a2⟩ := inB_true.1 h2
      have H2 := Lib.hid h2
      obtain ⟨k, rfl⟩ := Int.eq_ofNat_of_zero_le a1
      have hk : k < l.length := by omega
      have hg := partsGo_get (Int.le_refl 0) q3 k hk
      clear h2 q3
      have hno := fun h => toDisk_no3 (l := l) (n := n) (p := k) (a := a) hk h
      have hyes := fun h => toDisk_yes (l := l) (n := n) (p := k) (a := a) H1.out hk h
      have HNO := Lib.hid hno
      have HYES := Lib.hid hyes
      clear hno hyes
      go_enter Try.func66, Try.ntmps66
      go_wp2_with fail
      refine (specParts_b A c l n _ ha hl hn').mono ?_
      rw [H1.out]
      rintro e w1 ⟨rfl, hb1⟩
      obtain ⟨b, off, rfl, hbl, hc, hc2⟩ := (Rd.below ha hb1).rPartS hk
      obtain ⟨y, hy⟩ : ∃ y, y = l[k]'hk := ⟨_, rfl⟩
      rw [← hy] at hc hc2 hg
      rw [← hy] at HNO HYES
      clear hy
      obtain ⟨yf, yc⟩ := y
      simp only at hc hc2 hg HNO HYES
      obtain ⟨g1, g2, g3, g4⟩ := hg
      have hw1 := IntWalk.i64_in (yc - 1) (by omega)
      have hw0 := IntWalk.i64_in ((l.length : Int) - 1) (by omega)
      cases h3 : inB a 0 (yc - 1)
      · have H3 := Lib.hid h3
        clear h3
        go_wp2_with (go_at_call 65; (first | (with_reducible refine (within_k l1In_any a 0 (yc - 1) _).mono ?_; rw [H3.out]; rintro e w' ⟨rfl, rfl⟩) | (with_reducible refine (within_k l1In_any (k : Int) 0 (l.length - 1) _).mono ?_; rw [H2.out]; rintro e w' ⟨rfl, rfl⟩)))
        go_ret
        exact ⟨ret_int (HNO.out H3.out).symm, (by repeat (first | with_reducible exact Below.refl _ _ | with_reducible assumption | with_reducible refine below_drewN ?_ _ | with_reducible refine Below.drew ?_ | with_reducible refine Below.alloc ?_ ?_ _ | with_reducible refine Below.setCell ?_ ?_ _ | (with_reducible refine Below.next ?_ (by assumption)) | omega | (focus (simp; omega)) | (focus (simp; done))))⟩
      · obtain ⟨c1, c2⟩ := inB_true.1 h3
        have H3 := Lib.hid h3
        have hw2 := IntWalk.i64_in (yf + a) (by omega)
        clear h3
        go_wp2_with (go_at_call 65; (first | (with_reducible refine (within_k l1In_any a 0 (yc - 1) _).mono ?_; rw [H3.out]; rintro e w' ⟨rfl, rfl⟩) | (with_reducible refine (within_k l1In_any (k : Int) 0 (l.length - 1) _).mono ?_; rw [H2.out]; rintro e w' ⟨rfl, rfl⟩)))
        go_ret
        exact ⟨ret_int (HYES.out H3.out).symm, (by repeat (first | with_reducible exact Below.refl _ _ | with_reducible assumption | with_reducible refine below_drewN ?_ _ | with_reducible refine Below.drew ?_ | with_reducible refine Below.alloc ?_ ?_ _ | with_reducible refine Below.setCell ?_ ?_ _ | (with_reducible refine Below.next ?_ (by assumption)) | omega | (focus (simp; omega)) | (focus (simp; done))))⟩
set_option maxHeartbeats 4000000 in
theorem implPlace_c (x0 x1 x2 x3 : Value) (t : Stk) (p a : Int) (w : World) (h : StackRd w [x0, x1, x2, x3] t) (hs : sizeStack t ≤ 1099511627776) :
    Calls Try.prog 68 #[.agg #[x0, x1, x2, x3], .int .i64 p, .int .i64 a] w fun e w' => e = .returned (.int .i64 (placeB t p a)) ∧ Below w.heap.size w w' := by
  obtain ⟨A0, c0, A1, c1, A2, c2, e0, e1, e2, e3⟩ := id h.mst
  subst e0 e1 e2 e3
  have HR := Lib.hid h
  have hs' := hs
  unfold sizeStack at hs'
  have L0 := Loc.new w [.slice A0 t.dsk.length c0, .slice A1 t.prt.length c1, .slice A2 t.lns.length c2, .int .i64 t.mst] 35
  cases hv : stackB t
  · have HV := Lib.hid hv
    clear hv
    go_enter Try.func68, Try.ntmps68
    go_wp2_with fail
    refine (implStack_c _ _ _ _ t _ (StackRd.below HR.out (by repeat (first | with_reducible exact Below.refl _ _ | with_reducible refine below_drewN ?_ _ | with_reducible refine Below.drew ?_ | with_reducible refine Below.alloc ?_ ?_ _ | with_reducible refine Below.setCell ?_ ?_ _ | omega | (focus (simp; omega)) | (focus (simp; done))))) hs).mono ?_
    rw [HV.out]
    rintro e w1 ⟨rfl, hb1⟩
    go_wp2
    go_ret
    exact ⟨ret_int (place_no HV.out).symm, (by repeat (first | with_reducible exact Below.refl _ _ | with_reducible assumption | with_reducible refine below_drewN ?_ _ | with_reducible refine Below.drew ?_ | with_reducible refine Below.alloc ?_ ?_ _ | with_reducible refine Below.setCell ?_ ?_ _ | (with_reducible refine Below.next ?_ (by assumption)) | omega | (focus (simp; omega)) | (focus (simp; done))))⟩
  · have HV := Lib.hid hv
    clear hv
    go_enter Try.func68, Try.ntmps68
    go_wp2_with fail
    refine (implStack_c _ _ _ _ t _ (StackRd.below HR.out (by repeat (first | with_reducible exact Below.refl _ _ | with_reducible refine below_drewN ?_ _ | with_reducible refine Below.drew ?_ | with_reducible refine Below.alloc ?_ ?_ _ | with_reducible refine Below.setCell ?_ ?_ _ | omega | (focus (simp; omega)) | (focus (simp; done))))) hs).mono ?_
    rw [HV.out]
    rintro e w1 ⟨rfl, hb1⟩
    have M0 := Loc.carryB L0 (fun h => by ((repeat (first | with_reducible exact h | with_reducible refine Loc.drew ?_ | with_reducible refine Loc.drewN ?_ _ | with_reducible refine Loc.alloc ?_ _)); done)) hb1
    obtain ⟨k0, k1, k2, k3, kf⟩ := M0.four
    have W1 : Hid (Below w.heap.size w w1) := Lib.hid (Below.next (W := w) (by repeat (first | with_reducible exact Below.refl _ _ | with_reducible refine below_drewN ?_ _ | with_reducible refine Below.drew ?_ | with_reducible refine Below.alloc ?_ ?_ _ | with_reducible refine Below.setCell ?_ ?_ _ | omega | (focus (simp; omega)) | (focus (simp; done)))) hb1)
    have R1 : Hid (Rd encPartS w1 A1 t.prt) := Lib.hid (by
      obtain ⟨u, v, y, h1, h2, h3, h4⟩ := StackRd.below HR.out W1.out
      simp only [List.cons.injEq, and_true] at h1
      obtain ⟨rfl, rfl, rfl⟩ := h1
      obtain ⟨A', c', he, hr, _⟩ := h3
      injection he with q1 q2 q3
      subst q1
      exact hr)
    go_wp2_with fail
    refine (implToDisk_c A1 c1 t.prt t.dsk.length p a _ R1.out (by omega) (by omega)).mono ?_
    rintro e w2 ⟨rfl, hb2⟩
    go_wp2
    go_ret
    exact ⟨ret_int (place_yes HV.out).symm, (by repeat (first | with_reducible exact Below.refl _ _ | with_reducible assumption | with_reducible refine below_drewN ?_ _ | with_reducible refine Below.drew ?_ | with_reducible refine Below.alloc ?_ ?_ _ | with_reducible refine Below.setCell ?_ ?_ _ | (with_reducible refine Below.next ?_ (by assumption)) | omega | (focus (simp; omega)) | (focus (simp; done))))⟩
end Go.Proofs.Ytlhbjfjphckifaa
