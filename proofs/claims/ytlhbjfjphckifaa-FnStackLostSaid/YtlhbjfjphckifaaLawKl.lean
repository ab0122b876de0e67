/-
  FnStackLost: in a stack with an empty cache a value that was written is not seen after a power failure, and is seen after a power failure behind StackSync. No condition.
-/
import Derived.Test.YtlhbjfjphckifaaBase
import Derived.Test.YtlhbjfjphckifaaNum
import Derived.Test.YtlhbjfjphckifaaInts
import Derived.Test.YtlhbjfjphckifaaApp
import Derived.Test.YtlhbjfjphckifaaIntsW
import Derived.Test.YtlhbjfjphckifaaLib
import Derived.Test.YtlhbjfjphckifaaSpares
import Derived.Test.YtlhbjfjphckifaaOwn
import Derived.Test.YtlhbjfjphckifaaPart
import Derived.Test.YtlhbjfjphckifaaLine
import Derived.Test.YtlhbjfjphckifaaStack
import Derived.Test.YtlhbjfjphckifaaStackM
import Derived.Test.YtlhbjfjphckifaaStackC
import Derived.Test.YtlhbjfjphckifaaStackF
import Derived.Test.YtlhbjfjphckifaaStackS
import Derived.Test.YtlhbjfjphckifaaStackP
import Derived.Test.YtlhbjfjphckifaaStackU
import Derived.Test.YtlhbjfjphckifaaStackU2
import Derived.Test.YtlhbjfjphckifaaStackR
import Derived.Test.YtlhbjfjphckifaaStackD
import Derived.Test.YtlhbjfjphckifaaStackW
import Derived.Test.YtlhbjfjphckifaaStackX
import Derived.Test.YtlhbjfjphckifaaStackY
import Derived.Test.YtlhbjfjphckifaaStackCp
import Derived.Test.YtlhbjfjphckifaaStackS2
import Derived.Test.YtlhbjfjphckifaaStackK
import Derived.Test.YtlhbjfjphckifaaStackV
import Derived.Test.YtlhbjfjphckifaaStackQ
import Derived.Test.YtlhbjfjphckifaaSameSt
import Derived.Test.YtlhbjfjphckifaaDraw
import Derived.Test.YtlhbjfjphckifaaDrawK
import Derived.Test.YtlhbjfjphckifaaDrawD
import Derived.Test.YtlhbjfjphckifaaDrawSt
import Derived.Test.YtlhbjfjphckifaaDrawStk
import Derived.Test.YtlhbjfjphckifaaDrawStl
import Derived.Test.YtlhbjfjphckifaaOpen
import Derived.IntWalk
namespace Go.Proofs.Ytlhbjfjphckifaa
open Go.RowKit Go.ChangeShapes Go.WideShapes Go.ChangeAt Go.Deep Go.Joins
namespace LwKl
theorem rd_empty {w : World} {A0 A1 A2 : Option Addr} {n0 n1 n2 c0 c1 c2 : Nat} {t : Stk} {m : Value} (h : StackRd w [.slice A0 n0 c0, .slice A1 n1 c1, .slice A2 n2 c2, m] t) : StackRd w [.slice A0 n0 c0, .slice A1 n1 c1, .slice none 0 0, .int .i64 t.mst] ⟨t.dsk, t.prt, [], t.mst⟩ := by
  obtain ⟨u, v, y, h1, h2, h3, h4⟩ := h
  simp only [List.cons.injEq, and_true] at h1
  obtain ⟨rfl, rfl, rfl, -⟩ := h1
  exact ⟨_, _, _, rfl, h2, h3, SOwn.rd (SOwn.nil0 (e := 3) w 0 0)⟩
set_option maxHeartbeats 8000000 in
theorem walk (A : Option Addr) (c : Nat) (l : List Int) (w : World) (hl : l.length ≤ c) (hm : c ≤ maxLen) (hr : Rd eByte w A l) (hb : ∀ x ∈ l, 0 ≤ x ∧ x ≤ 255) :
    Calls Try.prog 13 #[.slice A l.length c] w fun e w' => e = .returned (.bool true) ∧ Below w.heap.size w w' := by
  have HB := Lib.hid hb
  clear hb
  by_cases hsz : (1048576 : Int) < l.length
  · unfold maxLen at hm
    go_enter Try.func13, Try.ntmps13
    go_wp2
    go_ret
    exact ⟨rfl, (by repeat (first | with_reducible exact Below.refl _ _ | with_reducible assumption | with_reducible refine below_drewN ?_ _ | with_reducible refine Below.drew ?_ | with_reducible refine Below.alloc ?_ ?_ _ | with_reducible refine Below.setCell ?_ ?_ _ | (with_reducible refine Below.next ?_ (by assumption)) | omega | (focus (simp; omega)) | (focus (simp; done))))⟩
  go_enter Try.func13, Try.ntmps13
  go_wp2_with fail
  refine (drawStw_any A c l _ hl hm hr HB.out).mono ?_
  rintro e w1 ⟨y0, y1, y2, y3, t, n, a, v, rfl, ⟨n0, n1⟩, ⟨a0, a1⟩, ⟨v0, v1⟩, hown, hs60, hcnt, hb1⟩
  obtain ⟨A0, c0, A1, c1, A2, c2, e0, e1, e2, e3⟩ := id hown.rd.mst
  subst e0 e1 e2 e3
  have HCNT := Lib.hid hcnt
  have hz1 := hb1.size
  have HB1 := Lib.hid hb1
  have HS1 := Lib.hid (StackOwn.rd hown)
  have hszs : Hid (sizeStack t ≤ 1099511627776) := Lib.hid (by omega)
  have hs6 := hs60
  unfold sizeStack at hs6
  have LS := Loc.newAt w1 [.slice A0 t.dsk.length c0, .slice A1 t.prt.length c1, .slice A2 t.lns.length c2, .int .i64 t.mst] 35 (b := w1.heap.size) rfl
  clear hb1 hown hcnt hsz
  obtain ⟨s, hs⟩ : ∃ s : Stk, s = ⟨t.dsk, t.prt, [], t.mst⟩ := ⟨_, rfl⟩
  have hsd : s.dsk = t.dsk := by rw [hs]
  have hsp : s.prt = t.prt := by rw [hs]
  have hsl : s.lns = [] := by rw [hs]
  have hsm : s.mst = t.mst := by rw [hs]
  have HS0 : Hid (StackRd w1 [.slice A0 t.dsk.length c0, .slice A1 t.prt.length c1, .slice none 0 0, .int .i64 t.mst] s) := Lib.hid (by rw [hs]; exact rd_empty HS1.out)
  have hss : sizeStack s ≤ 60 := by rw [hs]; unfold sizeStack; simp; omega
  have hssz : Hid (sizeStack s ≤ 1099511627776) := Lib.hid (by omega)
  have HSL := Lib.hid hsl
  clear HS1 hsd hsp hsm hsl hs
  have HS1 := HS0
  clear HS0
  obtain ⟨x, hx⟩ : ∃ x, x = writeS s n a v := ⟨_, rfl⟩
  have HX := Lib.hid hx
  have hxs := writeS_size s n a v
  rw [← hx] at hxs
  have hxsz : Hid (sizeStack x ≤ 1099511627776) := Lib.hid (by omega)
  have hxs6 := hxs
  unfold sizeStack at hxs6
  clear hx
  have hLS2 : Loc (w1.alloc (.cells #[.slice A0 t.dsk.length c0, .slice A1 t.prt.length c1, .slice none 0 0, .int .i64 t.mst] 35)) w1.heap.size [.slice A0 t.dsk.length c0, .slice A1 t.prt.length c1, .slice none 0 0, .int .i64 t.mst] := Loc.newAt w1 [.slice A0 t.dsk.length c0, .slice A1 t.prt.length c1, .slice none 0 0, .int .i64 t.mst] 35 (b := w1.heap.size) rfl
  go_wp2_with fail
  refine (implWr_c _ _ _ _ s n a v _ (StackRd.below HS1.out (by repeat (first | with_reducible exact Below.refl _ _ | with_reducible refine below_drewN ?_ _ | with_reducible refine Below.drew ?_ | with_reducible refine Below.alloc ?_ ?_ _ | with_reducible refine Below.setCell ?_ ?_ _ | omega | (focus (simp; omega)) | (focus (simp; done))))) hssz.out).mono ?_
  rw [← HX.out]
  rintro e w2 ⟨q0, q1, q2, q3, rfl, O2, hb2⟩
  obtain ⟨B0, d0, B1, d1, B2, d2, e0, e1, e2, e3⟩ := id O2.rd.mst
  subst e0 e1 e2 e3
  have LS2 := Loc.carryB hLS2 (fun h => by ((repeat (first | with_reducible exact h | with_reducible refine Loc.drew ?_ | with_reducible refine Loc.drewN ?_ _ | with_reducible refine Loc.alloc ?_ _)); done)) hb2
  have zS2 := LS2.lt
  have HB2 : Hid (Below w.heap.size w w2) := Lib.hid (Below.next (W := w) (by repeat (first | with_reducible exact HB1.out | with_reducible exact Below.refl _ _ | with_reducible refine below_drewN ?_ _ | with_reducible refine Below.drew ?_ | with_reducible refine Below.alloc ?_ ?_ _ | with_reducible refine Below.setCell ?_ ?_ _ | (with_reducible refine Below.next ?_ (by assumption)) | ((with_reducible refine Below.far' (by assumption) ?_ ?_ ?_); (focus (first | omega | (simp; omega) | (simp; done))); (focus (first | omega | (simp; omega) | (simp; done)))) | omega | (focus (simp; omega)) | (focus (simp; done)))) hb2)
  have HS2 := Lib.hid (StackRd.below HS1.out (Below.next (by repeat (first | with_reducible exact Below.refl _ _ | with_reducible refine below_drewN ?_ _ | with_reducible refine Below.drew ?_ | with_reducible refine Below.alloc ?_ ?_ _ | with_reducible refine Below.setCell ?_ ?_ _ | omega | (focus (simp; omega)) | (focus (simp; done)))) hb2))
  have hz2 := hb2.size
  (try simp at hz2)
  have HX2 := Lib.hid (StackOwn.rd O2)
  have LX2 := Loc.newAt w2 [.slice B0 x.dsk.length d0, .slice B1 x.prt.length d1, .slice B2 x.lns.length d2, .int .i64 x.mst] 35 (b := w2.heap.size) rfl
  have LSa := Loc.alloc LS2 (.cells #[.slice B0 x.dsk.length d0, .slice B1 x.prt.length d1, .slice B2 x.lns.length d2, .int .i64 x.mst] 35)
  clear hb2 O2 LS
  obtain ⟨s0, s1, s2, s3, sf⟩ := LSa.four
  obtain ⟨r0, r1, r2, r3, rf⟩ := LX2.four
  go_wp2_with fail
  go_region_held3 (fun w' => w'.cell? ⟨w1.heap.size, 0, none⟩ = some (.slice A0 t.dsk.length c0) ∧ w'.cell? ⟨w1.heap.size, 1, none⟩ = some (.slice A1 t.prt.length c1) ∧ w'.cell? ⟨w1.heap.size, 2, none⟩ = some (.slice none 0 0) ∧ w'.cell? ⟨w1.heap.size, 3, none⟩ = some (.int .i64 t.mst) ∧ w'.cell? ⟨w2.heap.size, 0, none⟩ = some (.slice B0 x.dsk.length d0) ∧ w'.cell? ⟨w2.heap.size, 1, none⟩ = some (.slice B1 x.prt.length d1) ∧ w'.cell? ⟨w2.heap.size, 2, none⟩ = some (.slice B2 x.lns.length d2) ∧ w'.cell? ⟨w2.heap.size, 3, none⟩ = some (.int .i64 x.mst)) (first | (with_reducible assumption) | (refine ⟨?_, ?_, ?_, ?_, ?_, ?_, ?_, ?_⟩ <;> with_reducible assumption) | go_keep | (refine ⟨?_, ?_, ?_, ?_, ?_, ?_, ?_, ?_⟩ <;> (simp [go_sem, *]; done))) (first
    | (go_at_call 24; go_must ((with_reducible refine (specWr_c _ _ _ _ s n a v _ (StackRd.below HS2.out (by repeat (first | with_reducible exact Below.refl _ _ | with_reducible refine below_drewN ?_ _ | with_reducible refine Below.drew ?_ | with_reducible refine Below.alloc ?_ ?_ _ | with_reducible refine Below.setCell ?_ ?_ _ | omega | (focus (simp; omega)) | (focus (simp; done))))) hssz.out).mono ?_); rw [← HX.out]; rintro e w3 ⟨p0, p1, p2, p3, rfl, O3, hb3⟩; have H3 := Lib.hid (StackOwn.rd O3); have LS3 := Loc.carryB LS2 (fun h => by ((repeat (first | with_reducible exact h | with_reducible refine Loc.drew ?_ | with_reducible refine Loc.drewN ?_ _ | with_reducible refine Loc.alloc ?_ _)); done)) hb3; obtain ⟨s0_3, s1_3, s2_3, s3_3, sf_3⟩ := LS3.four; have zS_3 := LS3.lt; have LX3 := Loc.carryB LX2 (fun h => by ((repeat (first | with_reducible exact h | with_reducible refine Loc.drew ?_ | with_reducible refine Loc.drewN ?_ _ | with_reducible refine Loc.alloc ?_ _)); done)) hb3; obtain ⟨r0_3, r1_3, r2_3, r3_3, rf_3⟩ := LX3.four; have zX_3 := LX3.lt; have HB3 : Hid (Below w.heap.size w w3) := Lib.hid (Below.next (W := w) (by repeat (first | with_reducible exact HB2.out | with_reducible exact Below.refl _ _ | with_reducible refine below_drewN ?_ _ | with_reducible refine Below.drew ?_ | with_reducible refine Below.alloc ?_ ?_ _ | with_reducible refine Below.setCell ?_ ?_ _ | (with_reducible refine Below.next ?_ (by assumption)) | ((with_reducible refine Below.far' (by assumption) ?_ ?_ ?_); (focus (first | omega | (simp; omega) | (simp; done))); (focus (first | omega | (simp; omega) | (simp; done)))) | omega | (focus (simp; omega)) | (focus (simp; done)))) hb3); have HS3 := Lib.hid (StackRd.below HS2.out (Below.next (by repeat (first | with_reducible exact Below.refl _ _ | with_reducible refine below_drewN ?_ _ | with_reducible refine Below.drew ?_ | with_reducible refine Below.alloc ?_ ?_ _ | with_reducible refine Below.setCell ?_ ?_ _ | omega | (focus (simp; omega)) | (focus (simp; done)))) hb3)); have HX3 := Lib.hid (StackRd.below HX2.out (Below.next (by repeat (first | with_reducible exact Below.refl _ _ | with_reducible refine below_drewN ?_ _ | with_reducible refine Below.drew ?_ | with_reducible refine Below.alloc ?_ ?_ _ | with_reducible refine Below.setCell ?_ ?_ _ | omega | (focus (simp; omega)) | (focus (simp; done)))) hb3)); have hz3 := hb3.size; (try simp at hz3); clear hb3; clear O3))
    | (go_at_call 34; go_must ((with_reducible refine (sameStack_c _ _ _ _ _ _ _ _ x _ (StackRd.below HX3.out (by repeat (first | with_reducible exact Below.refl _ _ | with_reducible refine below_drewN ?_ _ | with_reducible refine Below.drew ?_ | with_reducible refine Below.alloc ?_ ?_ _ | with_reducible refine Below.setCell ?_ ?_ _ | omega | (focus (simp; omega)) | (focus (simp; done))))) (StackRd.below H3.out (by repeat (first | with_reducible exact Below.refl _ _ | with_reducible refine below_drewN ?_ _ | with_reducible refine Below.drew ?_ | with_reducible refine Below.alloc ?_ ?_ _ | with_reducible refine Below.setCell ?_ ?_ _ | omega | (focus (simp; omega)) | (focus (simp; done))))) hxsz.out).mono ?_); rintro e w4 ⟨rfl, hb4⟩; have LS4 := Loc.carryB LS3 (fun h => by ((repeat (first | with_reducible exact h | with_reducible refine Loc.drew ?_ | with_reducible refine Loc.drewN ?_ _ | with_reducible refine Loc.alloc ?_ _)); done)) hb4; obtain ⟨s0_4, s1_4, s2_4, s3_4, sf_4⟩ := LS4.four; have zS_4 := LS4.lt; have LX4 := Loc.carryB LX3 (fun h => by ((repeat (first | with_reducible exact h | with_reducible refine Loc.drew ?_ | with_reducible refine Loc.drewN ?_ _ | with_reducible refine Loc.alloc ?_ _)); done)) hb4; obtain ⟨r0_4, r1_4, r2_4, r3_4, rf_4⟩ := LX4.four; have zX_4 := LX4.lt; have HB4 : Hid (Below w.heap.size w w4) := Lib.hid (Below.next (W := w) (by repeat (first | with_reducible exact HB3.out | with_reducible exact Below.refl _ _ | with_reducible refine below_drewN ?_ _ | with_reducible refine Below.drew ?_ | with_reducible refine Below.alloc ?_ ?_ _ | with_reducible refine Below.setCell ?_ ?_ _ | (with_reducible refine Below.next ?_ (by assumption)) | ((with_reducible refine Below.far' (by assumption) ?_ ?_ ?_); (focus (first | omega | (simp; omega) | (simp; done))); (focus (first | omega | (simp; omega) | (simp; done)))) | omega | (focus (simp; omega)) | (focus (simp; done)))) hb4); have HS4 := Lib.hid (StackRd.below HS3.out (Below.next (by repeat (first | with_reducible exact Below.refl _ _ | with_reducible refine below_drewN ?_ _ | with_reducible refine Below.drew ?_ | with_reducible refine Below.alloc ?_ ?_ _ | with_reducible refine Below.setCell ?_ ?_ _ | omega | (focus (simp; omega)) | (focus (simp; done)))) hb4)); have HX4 := Lib.hid (StackRd.below HX3.out (Below.next (by repeat (first | with_reducible exact Below.refl _ _ | with_reducible refine below_drewN ?_ _ | with_reducible refine Below.drew ?_ | with_reducible refine Below.alloc ?_ ?_ _ | with_reducible refine Below.setCell ?_ ?_ _ | omega | (focus (simp; omega)) | (focus (simp; done)))) hb4)); have hz4 := hb4.size; (try simp at hz4); clear hb4)))
  clear s0 s1 s2 s3 sf r0 r1 r2 r3 rf LSa LS2 LX2 LS3 LX3 HS1 HS2 HS3 HX2 HX3 H3 HB1 HB2 HB3 s0_3 s1_3 s2_3 s3_3 sf_3 r0_3 r1_3 r2_3 r3_3 rf_3 hLS2
  by_cases h0 : x.dsk.length = 0
  · have h0' : ((x.dsk.length : Int) == 0) = true := by simp [h0]
    clear h0
    go_wp2_with (go_at_call 31; refine (alive_any _).mono ?_; rintro e w6 ⟨rfl, hb6⟩)
    go_ret
    exact ⟨rfl, Below.next (W := w) HB4.out hb6⟩
  · have h0' : ((x.dsk.length : Int) == 0) = false := by rw [beq_eq_false_iff_ne]; omega
    have hok : writeOk s n a v = true := write_dsk0 (by rw [← HX.out]; omega)
    have hwv := write_view hok
    obtain ⟨hl1, hl2⟩ := lost_is HSL.out hok
    rw [← HX.out] at hwv hl1 hl2
    have HL1 := Lib.hid hl1
    obtain ⟨y, hy⟩ : ∃ y, y = syncS x := ⟨_, rfl⟩
    obtain ⟨z, hzz⟩ : ∃ z, z = crashS y := ⟨_, rfl⟩
    have HY := Lib.hid hy
    have HZ := Lib.hid hzz
    have hys := syncS_size x
    have hzs := crashS_size y
    rw [← hy] at hys
    rw [← hzz] at hzs
    have hysz : Hid (sizeStack y ≤ 1099511627776) := Lib.hid (by omega)
    have hzsz : Hid (sizeStack z ≤ 1099511627776) := Lib.hid (by omega)
    have HZV : Hid (partV z n = partV x n) := Lib.hid (by rw [hzz, hy]; exact syncCrash_view hwv.1 hl2 n)
    have hpv := partV_size s n
    have hpx := partV_size x n
    clear hy hzz hok hwv hl1 hl2 h0
    go_wp2_with fail
    refine (implCrash_c _ _ _ _ x _ (StackRd.below HX4.out (by repeat (first | with_reducible exact Below.refl _ _ | with_reducible refine below_drewN ?_ _ | with_reducible refine Below.drew ?_ | with_reducible refine Below.alloc ?_ ?_ _ | with_reducible refine Below.setCell ?_ ?_ _ | omega | (focus (simp; omega)) | (focus (simp; done))))) hxsz.out).mono ?_
    rw [HL1.out]
    rintro e w5 ⟨z0, z1, z2, z3, rfl, O5, hb5⟩
    obtain ⟨C0, g0, C1, g1, C2, g2, e0, e1, e2, e3⟩ := id O5.rd.mst
    subst e0 e1 e2 e3
    clear s0_4 s1_4 s2_4 s3_4 sf_4 r0_4 r1_4 r2_4 r3_4 rf_4
    have HD5 := Lib.hid (StackOwn.rd O5)
    have LD5 := Loc.newAt w5 [.slice C0 s.dsk.length g0, .slice C1 s.prt.length g1, .slice C2 s.lns.length g2, .int .i64 s.mst] 35 (b := w5.heap.size) rfl
    have LS5 := Loc.carryB LS4 (fun h => by ((repeat (first | with_reducible exact h | with_reducible refine Loc.drew ?_ | with_reducible refine Loc.drewN ?_ _ | with_reducible refine Loc.alloc ?_ _)); done)) hb5
    have LX5 := Loc.carryB LX4 (fun h => by ((repeat (first | with_reducible exact h | with_reducible refine Loc.drew ?_ | with_reducible refine Loc.drewN ?_ _ | with_reducible refine Loc.alloc ?_ _)); done)) hb5
    have HB5 : Hid (Below w.heap.size w w5) := Lib.hid (Below.next (W := w) (by repeat (first | with_reducible exact HB4.out | with_reducible exact Below.refl _ _ | with_reducible refine below_drewN ?_ _ | with_reducible refine Below.drew ?_ | with_reducible refine Below.alloc ?_ ?_ _ | with_reducible refine Below.setCell ?_ ?_ _ | (with_reducible refine Below.next ?_ (by assumption)) | ((with_reducible refine Below.far' (by assumption) ?_ ?_ ?_); (focus (first | omega | (simp; omega) | (simp; done))); (focus (first | omega | (simp; omega) | (simp; done)))) | omega | (focus (simp; omega)) | (focus (simp; done)))) hb5)
    have HS5 := Lib.hid (StackRd.below HS4.out (Below.next (by repeat (first | with_reducible exact Below.refl _ _ | with_reducible refine below_drewN ?_ _ | with_reducible refine Below.drew ?_ | with_reducible refine Below.alloc ?_ ?_ _ | with_reducible refine Below.setCell ?_ ?_ _ | omega | (focus (simp; omega)) | (focus (simp; done)))) hb5))
    have HX5 := Lib.hid (StackRd.below HX4.out (Below.next (by repeat (first | with_reducible exact Below.refl _ _ | with_reducible refine below_drewN ?_ _ | with_reducible refine Below.drew ?_ | with_reducible refine Below.alloc ?_ ?_ _ | with_reducible refine Below.setCell ?_ ?_ _ | omega | (focus (simp; omega)) | (focus (simp; done)))) hb5))
    have hz5 := hb5.size
    (try simp at hz5)
    have zS5 := LS5.lt
    have zX5 := LX5.lt
    obtain ⟨s0, s1, s2, s3, sf⟩ := LS5.four
    obtain ⟨r0, r1, r2, r3, rf⟩ := LX5.four
    clear hb5 O5
    go_wp2_with fail
    refine (implSync_c _ _ _ _ x _ (StackRd.below HX5.out (by repeat (first | with_reducible exact Below.refl _ _ | with_reducible refine below_drewN ?_ _ | with_reducible refine Below.drew ?_ | with_reducible refine Below.alloc ?_ ?_ _ | with_reducible refine Below.setCell ?_ ?_ _ | omega | (focus (simp; omega)) | (focus (simp; done))))) hxsz.out).mono ?_
    rw [← HY.out]
    rintro e w6 ⟨y0, y1, y2, y3, rfl, O6, hb6⟩
    have HY6 := Lib.hid (StackOwn.rd O6)
    have LD6 := Loc.carryB LD5 (fun h => by ((repeat (first | with_reducible exact h | with_reducible refine Loc.drew ?_ | with_reducible refine Loc.drewN ?_ _ | with_reducible refine Loc.alloc ?_ _)); done)) hb6
    have LS6 := Loc.carryB LS5 (fun h => by ((repeat (first | with_reducible exact h | with_reducible refine Loc.drew ?_ | with_reducible refine Loc.drewN ?_ _ | with_reducible refine Loc.alloc ?_ _)); done)) hb6
    have LX6 := Loc.carryB LX5 (fun h => by ((repeat (first | with_reducible exact h | with_reducible refine Loc.drew ?_ | with_reducible refine Loc.drewN ?_ _ | with_reducible refine Loc.alloc ?_ _)); done)) hb6
    have HB6 : Hid (Below w.heap.size w w6) := Lib.hid (Below.next (W := w) (by repeat (first | with_reducible exact HB5.out | with_reducible exact Below.refl _ _ | with_reducible refine below_drewN ?_ _ | with_reducible refine Below.drew ?_ | with_reducible refine Below.alloc ?_ ?_ _ | with_reducible refine Below.setCell ?_ ?_ _ | (with_reducible refine Below.next ?_ (by assumption)) | ((with_reducible refine Below.far' (by assumption) ?_ ?_ ?_); (focus (first | omega | (simp; omega) | (simp; done))); (focus (first | omega | (simp; omega) | (simp; done)))) | omega | (focus (simp; omega)) | (focus (simp; done)))) hb6)
    have HS6 := Lib.hid (StackRd.below HS5.out (Below.next (by repeat (first | with_reducible exact Below.refl _ _ | with_reducible refine below_drewN ?_ _ | with_reducible refine Below.drew ?_ | with_reducible refine Below.alloc ?_ ?_ _ | with_reducible refine Below.setCell ?_ ?_ _ | omega | (focus (simp; omega)) | (focus (simp; done)))) hb6))
    have HX6 := Lib.hid (StackRd.below HX5.out (Below.next (by repeat (first | with_reducible exact Below.refl _ _ | with_reducible refine below_drewN ?_ _ | with_reducible refine Below.drew ?_ | with_reducible refine Below.alloc ?_ ?_ _ | with_reducible refine Below.setCell ?_ ?_ _ | omega | (focus (simp; omega)) | (focus (simp; done)))) hb6))
    have HD6 := Lib.hid (StackRd.below HD5.out (Below.next (by repeat (first | with_reducible exact Below.refl _ _ | with_reducible refine below_drewN ?_ _ | with_reducible refine Below.drew ?_ | with_reducible refine Below.alloc ?_ ?_ _ | with_reducible refine Below.setCell ?_ ?_ _ | omega | (focus (simp; omega)) | (focus (simp; done)))) hb6))
    have hz6 := hb6.size
    (try simp at hz6)
    clear hb6 O6 s0 s1 s2 s3 sf r0 r1 r2 r3 rf
    go_wp2_with fail
    refine (implCrash_c _ _ _ _ y _ (StackRd.below HY6.out (by repeat (first | with_reducible exact Below.refl _ _ | with_reducible refine below_drewN ?_ _ | with_reducible refine Below.drew ?_ | with_reducible refine Below.alloc ?_ ?_ _ | with_reducible refine Below.setCell ?_ ?_ _ | omega | (focus (simp; omega)) | (focus (simp; done))))) hysz.out).mono ?_
    rw [← HZ.out]
    rintro e w7 ⟨i0, i1, i2, i3, rfl, O7, hb7⟩
    obtain ⟨E0, h0, E1, h1, E2, h2, f0, f1, f2, f3⟩ := id O7.rd.mst
    subst f0 f1 f2 f3
    have LZ7 := Loc.newAt w7 [.slice E0 z.dsk.length h0, .slice E1 z.prt.length h1, .slice E2 z.lns.length h2, .int .i64 z.mst] 35 (b := w7.heap.size) rfl
    have LD7 := Loc.carryB LD6 (fun h => by ((repeat (first | with_reducible exact h | with_reducible refine Loc.drew ?_ | with_reducible refine Loc.drewN ?_ _ | with_reducible refine Loc.alloc ?_ _)); done)) hb7
    have LS7 := Loc.carryB LS6 (fun h => by ((repeat (first | with_reducible exact h | with_reducible refine Loc.drew ?_ | with_reducible refine Loc.drewN ?_ _ | with_reducible refine Loc.alloc ?_ _)); done)) hb7
    have LX7 := Loc.carryB LX6 (fun h => by ((repeat (first | with_reducible exact h | with_reducible refine Loc.drew ?_ | with_reducible refine Loc.drewN ?_ _ | with_reducible refine Loc.alloc ?_ _)); done)) hb7
    have HB7 : Hid (Below w.heap.size w w7) := Lib.hid (Below.next (W := w) (by repeat (first | with_reducible exact HB6.out | with_reducible exact Below.refl _ _ | with_reducible refine below_drewN ?_ _ | with_reducible refine Below.drew ?_ | with_reducible refine Below.alloc ?_ ?_ _ | with_reducible refine Below.setCell ?_ ?_ _ | (with_reducible refine Below.next ?_ (by assumption)) | ((with_reducible refine Below.far' (by assumption) ?_ ?_ ?_); (focus (first | omega | (simp; omega) | (simp; done))); (focus (first | omega | (simp; omega) | (simp; done)))) | omega | (focus (simp; omega)) | (focus (simp; done)))) hb7)
    have HS7 := Lib.hid (StackRd.below HS6.out (Below.next (by repeat (first | with_reducible exact Below.refl _ _ | with_reducible refine below_drewN ?_ _ | with_reducible refine Below.drew ?_ | with_reducible refine Below.alloc ?_ ?_ _ | with_reducible refine Below.setCell ?_ ?_ _ | omega | (focus (simp; omega)) | (focus (simp; done)))) hb7))
    have HX7 := Lib.hid (StackRd.below HX6.out (Below.next (by repeat (first | with_reducible exact Below.refl _ _ | with_reducible refine below_drewN ?_ _ | with_reducible refine Below.drew ?_ | with_reducible refine Below.alloc ?_ ?_ _ | with_reducible refine Below.setCell ?_ ?_ _ | omega | (focus (simp; omega)) | (focus (simp; done)))) hb7))
    have HD7 := Lib.hid (StackRd.below HD6.out (Below.next (by repeat (first | with_reducible exact Below.refl _ _ | with_reducible refine below_drewN ?_ _ | with_reducible refine Below.drew ?_ | with_reducible refine Below.alloc ?_ ?_ _ | with_reducible refine Below.setCell ?_ ?_ _ | omega | (focus (simp; omega)) | (focus (simp; done)))) hb7))
    have HZ7 := Lib.hid (StackOwn.rd O7)
    have hz7 := hb7.size
    (try simp at hz7)
    have zS7 := LS7.lt
    have zX7 := LX7.lt
    have zD7 := LD7.lt
    have LDa := Loc.alloc LD7 (.cells #[.slice E0 z.dsk.length h0, .slice E1 z.prt.length h1, .slice E2 z.lns.length h2, .int .i64 z.mst] 35)
    have LSa := Loc.alloc LS7 (.cells #[.slice E0 z.dsk.length h0, .slice E1 z.prt.length h1, .slice E2 z.lns.length h2, .int .i64 z.mst] 35)
    have LXa := Loc.alloc LX7 (.cells #[.slice E0 z.dsk.length h0, .slice E1 z.prt.length h1, .slice E2 z.lns.length h2, .int .i64 z.mst] 35)
    obtain ⟨s0, s1, s2, s3, sf⟩ := LSa.four
    obtain ⟨r0, r1, r2, r3, rf⟩ := LXa.four
    obtain ⟨u0, u1, u2, u3, uf⟩ := LDa.four
    obtain ⟨j0, j1, j2, j3, jf⟩ := LZ7.four
    obtain ⟨vs, hvs⟩ : ∃ vs, vs = partV s n := ⟨_, rfl⟩
    obtain ⟨vx, hvx⟩ : ∃ vx, vx = partV x n := ⟨_, rfl⟩
    have HVS := Lib.hid hvs
    have HVX := Lib.hid hvx
    rw [← hvs] at hpv
    rw [← hvx] at hpx
    clear hvs hvx hb7 O7
    go_wp2_with fail
    go_region_held3 (fun w' => w'.cell? ⟨w1.heap.size, 0, none⟩ = some (.slice A0 t.dsk.length c0) ∧ w'.cell? ⟨w1.heap.size, 1, none⟩ = some (.slice A1 t.prt.length c1) ∧ w'.cell? ⟨w1.heap.size, 2, none⟩ = some (.slice none 0 0) ∧ w'.cell? ⟨w1.heap.size, 3, none⟩ = some (.int .i64 t.mst) ∧ w'.cell? ⟨w2.heap.size, 0, none⟩ = some (.slice B0 x.dsk.length d0) ∧ w'.cell? ⟨w2.heap.size, 1, none⟩ = some (.slice B1 x.prt.length d1) ∧ w'.cell? ⟨w2.heap.size, 2, none⟩ = some (.slice B2 x.lns.length d2) ∧ w'.cell? ⟨w2.heap.size, 3, none⟩ = some (.int .i64 x.mst) ∧ w'.cell? ⟨w5.heap.size, 0, none⟩ = some (.slice C0 s.dsk.length g0) ∧ w'.cell? ⟨w5.heap.size, 1, none⟩ = some (.slice C1 s.prt.length g1) ∧ w'.cell? ⟨w5.heap.size, 2, none⟩ = some (.slice C2 s.lns.length g2) ∧ w'.cell? ⟨w5.heap.size, 3, none⟩ = some (.int .i64 s.mst) ∧ w'.cell? ⟨w7.heap.size, 0, none⟩ = some (.slice E0 z.dsk.length h0) ∧ w'.cell? ⟨w7.heap.size, 1, none⟩ = some (.slice E1 z.prt.length h1) ∧ w'.cell? ⟨w7.heap.size, 2, none⟩ = some (.slice E2 z.lns.length h2) ∧ w'.cell? ⟨w7.heap.size, 3, none⟩ = some (.int .i64 z.mst)) (first | (with_reducible assumption) | (refine ⟨?_, ?_, ?_, ?_, ?_, ?_, ?_, ?_, ?_, ?_, ?_, ?_, ?_, ?_, ?_, ?_⟩ <;> with_reducible assumption) | go_keep | (refine ⟨?_, ?_, ?_, ?_, ?_, ?_, ?_, ?_, ?_, ?_, ?_, ?_, ?_, ?_, ?_, ?_⟩ <;> (simp [go_sem, *]; done))) (first
      | (go_at_call 37; (with_reducible refine (implPV_c (.slice C0 s.dsk.length g0) _ _ _ s n _ (StackRd.below HD7.out (by repeat (first | with_reducible exact Below.refl _ _ | with_reducible refine below_drewN ?_ _ | with_reducible refine Below.drew ?_ | with_reducible refine Below.alloc ?_ ?_ _ | with_reducible refine Below.setCell ?_ ?_ _ | omega | (focus (simp; omega)) | (focus (simp; done))))) hssz.out).mono ?_); go_must (rw [← HVS.out]; rintro e w8 ⟨v8, rfl, o8, hb8⟩; obtain ⟨A8, c8, gg8, rfl, -, -⟩ := id o8; have H8 := Lib.hid (SOwn.rd o8); have KS8 := Loc.carryB LSa (fun h => by ((repeat (first | with_reducible exact h | with_reducible refine Loc.drew ?_ | with_reducible refine Loc.drewN ?_ _ | with_reducible refine Loc.alloc ?_ _)); done)) hb8; obtain ⟨s0_8, s1_8, s2_8, s3_8, sf_8⟩ := KS8.four; have kzS_8 := KS8.lt; have KX8 := Loc.carryB LXa (fun h => by ((repeat (first | with_reducible exact h | with_reducible refine Loc.drew ?_ | with_reducible refine Loc.drewN ?_ _ | with_reducible refine Loc.alloc ?_ _)); done)) hb8; obtain ⟨r0_8, r1_8, r2_8, r3_8, rf_8⟩ := KX8.four; have kzX_8 := KX8.lt; have KD8 := Loc.carryB LDa (fun h => by ((repeat (first | with_reducible exact h | with_reducible refine Loc.drew ?_ | with_reducible refine Loc.drewN ?_ _ | with_reducible refine Loc.alloc ?_ _)); done)) hb8; obtain ⟨u0_8, u1_8, u2_8, u3_8, uf_8⟩ := KD8.four; have kzD_8 := KD8.lt; have KZ8 := Loc.carryB LZ7 (fun h => by ((repeat (first | with_reducible exact h | with_reducible refine Loc.drew ?_ | with_reducible refine Loc.drewN ?_ _ | with_reducible refine Loc.alloc ?_ _)); done)) hb8; obtain ⟨j0_8, j1_8, j2_8, j3_8, jf_8⟩ := KZ8.four; have kzZ_8 := KZ8.lt; have HB8 : Hid (Below w.heap.size w w8) := Lib.hid (Below.next (W := w) (by repeat (first | with_reducible exact HB7.out | with_reducible exact Below.refl _ _ | with_reducible refine below_drewN ?_ _ | with_reducible refine Below.drew ?_ | with_reducible refine Below.alloc ?_ ?_ _ | with_reducible refine Below.setCell ?_ ?_ _ | (with_reducible refine Below.next ?_ (by assumption)) | ((with_reducible refine Below.far' (by assumption) ?_ ?_ ?_); (focus (first | omega | (simp; omega) | (simp; done))); (focus (first | omega | (simp; omega) | (simp; done)))) | omega | (focus (simp; omega)) | (focus (simp; done)))) hb8); have HS8 := Lib.hid (StackRd.below HS7.out (Below.next (by repeat (first | with_reducible exact Below.refl _ _ | with_reducible refine below_drewN ?_ _ | with_reducible refine Below.drew ?_ | with_reducible refine Below.alloc ?_ ?_ _ | with_reducible refine Below.setCell ?_ ?_ _ | omega | (focus (simp; omega)) | (focus (simp; done)))) hb8)); have HX8 := Lib.hid (StackRd.below HX7.out (Below.next (by repeat (first | with_reducible exact Below.refl _ _ | with_reducible refine below_drewN ?_ _ | with_reducible refine Below.drew ?_ | with_reducible refine Below.alloc ?_ ?_ _ | with_reducible refine Below.setCell ?_ ?_ _ | omega | (focus (simp; omega)) | (focus (simp; done)))) hb8)); have HD8 := Lib.hid (StackRd.below HD7.out (Below.next (by repeat (first | with_reducible exact Below.refl _ _ | with_reducible refine below_drewN ?_ _ | with_reducible refine Below.drew ?_ | with_reducible refine Below.alloc ?_ ?_ _ | with_reducible refine Below.setCell ?_ ?_ _ | omega | (focus (simp; omega)) | (focus (simp; done)))) hb8)); have HZ8 := Lib.hid (StackRd.below HZ7.out (Below.next (by repeat (first | with_reducible exact Below.refl _ _ | with_reducible refine below_drewN ?_ _ | with_reducible refine Below.drew ?_ | with_reducible refine Below.alloc ?_ ?_ _ | with_reducible refine Below.setCell ?_ ?_ _ | omega | (focus (simp; omega)) | (focus (simp; done)))) hb8)); have hz8 := hb8.size; (try simp at hz8); clear hb8))
      | (go_at_call 37; (with_reducible refine (implPV_c (.slice A0 t.dsk.length c0) _ _ _ s n _ (StackRd.below HS8.out (by repeat (first | with_reducible exact Below.refl _ _ | with_reducible refine below_drewN ?_ _ | with_reducible refine Below.drew ?_ | with_reducible refine Below.alloc ?_ ?_ _ | with_reducible refine Below.setCell ?_ ?_ _ | omega | (focus (simp; omega)) | (focus (simp; done))))) hssz.out).mono ?_); go_must (rw [← HVS.out]; rintro e w9 ⟨v9, rfl, o9, hb9⟩; obtain ⟨A9, c9, gg9, rfl, -, -⟩ := id o9; have H9 := Lib.hid (SOwn.rd o9); have H89 := Lib.hid (SRd.below H8.out (Below.next (by repeat (first | with_reducible exact Below.refl _ _ | with_reducible refine below_drewN ?_ _ | with_reducible refine Below.drew ?_ | with_reducible refine Below.alloc ?_ ?_ _ | with_reducible refine Below.setCell ?_ ?_ _ | omega | (focus (simp; omega)) | (focus (simp; done)))) hb9)); have KS9 := Loc.carryB KS8 (fun h => by ((repeat (first | with_reducible exact h | with_reducible refine Loc.drew ?_ | with_reducible refine Loc.drewN ?_ _ | with_reducible refine Loc.alloc ?_ _)); done)) hb9; obtain ⟨s0_9, s1_9, s2_9, s3_9, sf_9⟩ := KS9.four; have kzS_9 := KS9.lt; have KX9 := Loc.carryB KX8 (fun h => by ((repeat (first | with_reducible exact h | with_reducible refine Loc.drew ?_ | with_reducible refine Loc.drewN ?_ _ | with_reducible refine Loc.alloc ?_ _)); done)) hb9; obtain ⟨r0_9, r1_9, r2_9, r3_9, rf_9⟩ := KX9.four; have kzX_9 := KX9.lt; have KD9 := Loc.carryB KD8 (fun h => by ((repeat (first | with_reducible exact h | with_reducible refine Loc.drew ?_ | with_reducible refine Loc.drewN ?_ _ | with_reducible refine Loc.alloc ?_ _)); done)) hb9; obtain ⟨u0_9, u1_9, u2_9, u3_9, uf_9⟩ := KD9.four; have kzD_9 := KD9.lt; have KZ9 := Loc.carryB KZ8 (fun h => by ((repeat (first | with_reducible exact h | with_reducible refine Loc.drew ?_ | with_reducible refine Loc.drewN ?_ _ | with_reducible refine Loc.alloc ?_ _)); done)) hb9; obtain ⟨j0_9, j1_9, j2_9, j3_9, jf_9⟩ := KZ9.four; have kzZ_9 := KZ9.lt; have HB9 : Hid (Below w.heap.size w w9) := Lib.hid (Below.next (W := w) (by repeat (first | with_reducible exact HB8.out | with_reducible exact Below.refl _ _ | with_reducible refine below_drewN ?_ _ | with_reducible refine Below.drew ?_ | with_reducible refine Below.alloc ?_ ?_ _ | with_reducible refine Below.setCell ?_ ?_ _ | (with_reducible refine Below.next ?_ (by assumption)) | ((with_reducible refine Below.far' (by assumption) ?_ ?_ ?_); (focus (first | omega | (simp; omega) | (simp; done))); (focus (first | omega | (simp; omega) | (simp; done)))) | omega | (focus (simp; omega)) | (focus (simp; done)))) hb9); have HS9 := Lib.hid (StackRd.below HS8.out (Below.next (by repeat (first | with_reducible exact Below.refl _ _ | with_reducible refine below_drewN ?_ _ | with_reducible refine Below.drew ?_ | with_reducible refine Below.alloc ?_ ?_ _ | with_reducible refine Below.setCell ?_ ?_ _ | omega | (focus (simp; omega)) | (focus (simp; done)))) hb9)); have HX9 := Lib.hid (StackRd.below HX8.out (Below.next (by repeat (first | with_reducible exact Below.refl _ _ | with_reducible refine below_drewN ?_ _ | with_reducible refine Below.drew ?_ | with_reducible refine Below.alloc ?_ ?_ _ | with_reducible refine Below.setCell ?_ ?_ _ | omega | (focus (simp; omega)) | (focus (simp; done)))) hb9)); have HD9 := Lib.hid (StackRd.below HD8.out (Below.next (by repeat (first | with_reducible exact Below.refl _ _ | with_reducible refine below_drewN ?_ _ | with_reducible refine Below.drew ?_ | with_reducible refine Below.alloc ?_ ?_ _ | with_reducible refine Below.setCell ?_ ?_ _ | omega | (focus (simp; omega)) | (focus (simp; done)))) hb9)); have HZ9 := Lib.hid (StackRd.below HZ8.out (Below.next (by repeat (first | with_reducible exact Below.refl _ _ | with_reducible refine below_drewN ?_ _ | with_reducible refine Below.drew ?_ | with_reducible refine Below.alloc ?_ ?_ _ | with_reducible refine Below.setCell ?_ ?_ _ | omega | (focus (simp; omega)) | (focus (simp; done)))) hb9)); have hz9 := hb9.size; (try simp at hz9); clear hb9))
      | (go_at_call 36; (with_reducible refine (sameInts_v (.slice A8 vs.length c8) (.slice A9 vs.length c9) vs vs _ (SRd.below H89.out (by repeat (first | with_reducible exact Below.refl _ _ | with_reducible refine below_drewN ?_ _ | with_reducible refine Below.drew ?_ | with_reducible refine Below.alloc ?_ ?_ _ | with_reducible refine Below.setCell ?_ ?_ _ | omega | (focus (simp; omega)) | (focus (simp; done))))) (SRd.below H9.out (by repeat (first | with_reducible exact Below.refl _ _ | with_reducible refine below_drewN ?_ _ | with_reducible refine Below.drew ?_ | with_reducible refine Below.alloc ?_ ?_ _ | with_reducible refine Below.setCell ?_ ?_ _ | omega | (focus (simp; omega)) | (focus (simp; done))))) (by omega) (by omega)).mono ?_); go_must (rw [dec_reflK]; rintro e w10 ⟨rfl, q10, rfl⟩))
      | (go_at_call 37; (with_reducible refine (implPV_c (.slice E0 z.dsk.length h0) _ _ _ z n _ (StackRd.below HZ9.out (by repeat (first | with_reducible exact Below.refl _ _ | with_reducible refine below_drewN ?_ _ | with_reducible refine Below.drew ?_ | with_reducible refine Below.alloc ?_ ?_ _ | with_reducible refine Below.setCell ?_ ?_ _ | omega | (focus (simp; omega)) | (focus (simp; done))))) hzsz.out).mono ?_); go_must (rw [HZV.out, ← HVX.out]; rintro e w11 ⟨v11, rfl, o11, hb11⟩; obtain ⟨A11, c11, gg11, rfl, -, -⟩ := id o11; have H11 := Lib.hid (SOwn.rd o11); have KS11 := Loc.carryB KS9 (fun h => by ((repeat (first | with_reducible exact h | with_reducible refine Loc.drew ?_ | with_reducible refine Loc.drewN ?_ _ | with_reducible refine Loc.alloc ?_ _)); done)) hb11; obtain ⟨s0_11, s1_11, s2_11, s3_11, sf_11⟩ := KS11.four; have kzS_11 := KS11.lt; have KX11 := Loc.carryB KX9 (fun h => by ((repeat (first | with_reducible exact h | with_reducible refine Loc.drew ?_ | with_reducible refine Loc.drewN ?_ _ | with_reducible refine Loc.alloc ?_ _)); done)) hb11; obtain ⟨r0_11, r1_11, r2_11, r3_11, rf_11⟩ := KX11.four; have kzX_11 := KX11.lt; have KD11 := Loc.carryB KD9 (fun h => by ((repeat (first | with_reducible exact h | with_reducible refine Loc.drew ?_ | with_reducible refine Loc.drewN ?_ _ | with_reducible refine Loc.alloc ?_ _)); done)) hb11; obtain ⟨u0_11, u1_11, u2_11, u3_11, uf_11⟩ := KD11.four; have kzD_11 := KD11.lt; have KZ11 := Loc.carryB KZ9 (fun h => by ((repeat (first | with_reducible exact h | with_reducible refine Loc.drew ?_ | with_reducible refine Loc.drewN ?_ _ | with_reducible refine Loc.alloc ?_ _)); done)) hb11; obtain ⟨j0_11, j1_11, j2_11, j3_11, jf_11⟩ := KZ11.four; have kzZ_11 := KZ11.lt; have HB11 : Hid (Below w.heap.size w w11) := Lib.hid (Below.next (W := w) (by repeat (first | with_reducible exact HB9.out | with_reducible exact Below.refl _ _ | with_reducible refine below_drewN ?_ _ | with_reducible refine Below.drew ?_ | with_reducible refine Below.alloc ?_ ?_ _ | with_reducible refine Below.setCell ?_ ?_ _ | (with_reducible refine Below.next ?_ (by assumption)) | ((with_reducible refine Below.far' (by assumption) ?_ ?_ ?_); (focus (first | omega | (simp; omega) | (simp; done))); (focus (first | omega | (simp; omega) | (simp; done)))) | omega | (focus (simp; omega)) | (focus (simp; done)))) hb11); have HS11 := Lib.hid (StackRd.below HS9.out (Below.next (by repeat (first | with_reducible exact Below.refl _ _ | with_reducible refine below_drewN ?_ _ | with_reducible refine Below.drew ?_ | with_reducible refine Below.alloc ?_ ?_ _ | with_reducible refine Below.setCell ?_ ?_ _ | omega | (focus (simp; omega)) | (focus (simp; done)))) hb11)); have HX11 := Lib.hid (StackRd.below HX9.out (Below.next (by repeat (first | with_reducible exact Below.refl _ _ | with_reducible refine below_drewN ?_ _ | with_reducible refine Below.drew ?_ | with_reducible refine Below.alloc ?_ ?_ _ | with_reducible refine Below.setCell ?_ ?_ _ | omega | (focus (simp; omega)) | (focus (simp; done)))) hb11)); have HD11 := Lib.hid (StackRd.below HD9.out (Below.next (by repeat (first | with_reducible exact Below.refl _ _ | with_reducible refine below_drewN ?_ _ | with_reducible refine Below.drew ?_ | with_reducible refine Below.alloc ?_ ?_ _ | with_reducible refine Below.setCell ?_ ?_ _ | omega | (focus (simp; omega)) | (focus (simp; done)))) hb11)); have HZ11 := Lib.hid (StackRd.below HZ9.out (Below.next (by repeat (first | with_reducible exact Below.refl _ _ | with_reducible refine below_drewN ?_ _ | with_reducible refine Below.drew ?_ | with_reducible refine Below.alloc ?_ ?_ _ | with_reducible refine Below.setCell ?_ ?_ _ | omega | (focus (simp; omega)) | (focus (simp; done)))) hb11)); have hz11 := hb11.size; (try simp at hz11); clear hb11))
      | (go_at_call 37; (with_reducible refine (implPV_c (.slice B0 x.dsk.length d0) _ _ _ x n _ (StackRd.below HX11.out (by repeat (first | with_reducible exact Below.refl _ _ | with_reducible refine below_drewN ?_ _ | with_reducible refine Below.drew ?_ | with_reducible refine Below.alloc ?_ ?_ _ | with_reducible refine Below.setCell ?_ ?_ _ | omega | (focus (simp; omega)) | (focus (simp; done))))) hxsz.out).mono ?_); go_must (rw [← HVX.out]; rintro e w12 ⟨v12, rfl, o12, hb12⟩; obtain ⟨A12, c12, gg12, rfl, -, -⟩ := id o12; have H12 := Lib.hid (SOwn.rd o12); have H1112 := Lib.hid (SRd.below H11.out (Below.next (by repeat (first | with_reducible exact Below.refl _ _ | with_reducible refine below_drewN ?_ _ | with_reducible refine Below.drew ?_ | with_reducible refine Below.alloc ?_ ?_ _ | with_reducible refine Below.setCell ?_ ?_ _ | omega | (focus (simp; omega)) | (focus (simp; done)))) hb12)); have KS12 := Loc.carryB KS11 (fun h => by ((repeat (first | with_reducible exact h | with_reducible refine Loc.drew ?_ | with_reducible refine Loc.drewN ?_ _ | with_reducible refine Loc.alloc ?_ _)); done)) hb12; obtain ⟨s0_12, s1_12, s2_12, s3_12, sf_12⟩ := KS12.four; have kzS_12 := KS12.lt; have KX12 := Loc.carryB KX11 (fun h => by ((repeat (first | with_reducible exact h | with_reducible refine Loc.drew ?_ | with_reducible refine Loc.drewN ?_ _ | with_reducible refine Loc.alloc ?_ _)); done)) hb12; obtain ⟨r0_12, r1_12, r2_12, r3_12, rf_12⟩ := KX12.four; have kzX_12 := KX12.lt; have KD12 := Loc.carryB KD11 (fun h => by ((repeat (first | with_reducible exact h | with_reducible refine Loc.drew ?_ | with_reducible refine Loc.drewN ?_ _ | with_reducible refine Loc.alloc ?_ _)); done)) hb12; obtain ⟨u0_12, u1_12, u2_12, u3_12, uf_12⟩ := KD12.four; have kzD_12 := KD12.lt; have KZ12 := Loc.carryB KZ11 (fun h => by ((repeat (first | with_reducible exact h | with_reducible refine Loc.drew ?_ | with_reducible refine Loc.drewN ?_ _ | with_reducible refine Loc.alloc ?_ _)); done)) hb12; obtain ⟨j0_12, j1_12, j2_12, j3_12, jf_12⟩ := KZ12.four; have kzZ_12 := KZ12.lt; have HB12 : Hid (Below w.heap.size w w12) := Lib.hid (Below.next (W := w) (by repeat (first | with_reducible exact HB11.out | with_reducible exact Below.refl _ _ | with_reducible refine below_drewN ?_ _ | with_reducible refine Below.drew ?_ | with_reducible refine Below.alloc ?_ ?_ _ | with_reducible refine Below.setCell ?_ ?_ _ | (with_reducible refine Below.next ?_ (by assumption)) | ((with_reducible refine Below.far' (by assumption) ?_ ?_ ?_); (focus (first | omega | (simp; omega) | (simp; done))); (focus (first | omega | (simp; omega) | (simp; done)))) | omega | (focus (simp; omega)) | (focus (simp; done)))) hb12); have HS12 := Lib.hid (StackRd.below HS11.out (Below.next (by repeat (first | with_reducible exact Below.refl _ _ | with_reducible refine below_drewN ?_ _ | with_reducible refine Below.drew ?_ | with_reducible refine Below.alloc ?_ ?_ _ | with_reducible refine Below.setCell ?_ ?_ _ | omega | (focus (simp; omega)) | (focus (simp; done)))) hb12)); have HX12 := Lib.hid (StackRd.below HX11.out (Below.next (by repeat (first | with_reducible exact Below.refl _ _ | with_reducible refine below_drewN ?_ _ | with_reducible refine Below.drew ?_ | with_reducible refine Below.alloc ?_ ?_ _ | with_reducible refine Below.setCell ?_ ?_ _ | omega | (focus (simp; omega)) | (focus (simp; done)))) hb12)); have HD12 := Lib.hid (StackRd.below HD11.out (Below.next (by repeat (first | with_reducible exact Below.refl _ _ | with_reducible refine below_drewN ?_ _ | with_reducible refine Below.drew ?_ | with_reducible refine Below.alloc ?_ ?_ _ | with_reducible refine Below.setCell ?_ ?_ _ | omega | (focus (simp; omega)) | (focus (simp; done)))) hb12)); have HZ12 := Lib.hid (StackRd.below HZ11.out (Below.next (by repeat (first | with_reducible exact Below.refl _ _ | with_reducible refine below_drewN ?_ _ | with_reducible refine Below.drew ?_ | with_reducible refine Below.alloc ?_ ?_ _ | with_reducible refine Below.setCell ?_ ?_ _ | omega | (focus (simp; omega)) | (focus (simp; done)))) hb12)); have hz12 := hb12.size; (try simp at hz12); clear hb12))
      | (go_at_call 36; (with_reducible refine (sameInts_v (.slice A11 vx.length c11) (.slice A12 vx.length c12) vx vx _ (SRd.below H1112.out (by repeat (first | with_reducible exact Below.refl _ _ | with_reducible refine below_drewN ?_ _ | with_reducible refine Below.drew ?_ | with_reducible refine Below.alloc ?_ ?_ _ | with_reducible refine Below.setCell ?_ ?_ _ | omega | (focus (simp; omega)) | (focus (simp; done))))) (SRd.below H12.out (by repeat (first | with_reducible exact Below.refl _ _ | with_reducible refine below_drewN ?_ _ | with_reducible refine Below.drew ?_ | with_reducible refine Below.alloc ?_ ?_ _ | with_reducible refine Below.setCell ?_ ?_ _ | omega | (focus (simp; omega)) | (focus (simp; done))))) (by omega) (by omega)).mono ?_); go_must (rw [dec_reflK]; rintro e w13 ⟨rfl, q13, rfl⟩)))
    go_wp2
    go_ret
    exact ⟨rfl, below_drewN HB12.out _⟩
set_option maxRecDepth 100000 in
theorem lifted (os : Os) (started : os.Started) (H : Type) (enc : TypeId × Value → H) :
    ReturnsInHanded {} Try.checked os 13 .any (Rows.fnStackLostSpec.pre6 enc Try.prog Try.f13 Rows.fnStackLostRow.domain false) (Rows.fnStackLostSpec.post enc Try.prog Try.f13 false true false false) := by
  refine returnsInHanded_of_change (C := Try.checked) own_knob started (by kernel_rfl) Try.func13
    (ChangeSpec.witness6 (enc := enc) (C := Try.checked) false ⟨#[], #[.slice none 0 0], []⟩ 8 (by kernel_rfl) (by kernel_rfl) (by kernel_rfl) (by kernel_rfl)) ?_
  intro W base args ds gs before hval0 hW hcnd _
  have hval : ∀ (j : Nat) t v, Try.f13.params[j]? = some t → args[j]? = some v → Value.okWide Try.prog W .any base t v := hval0
  have hW' := hW
  obtain ⟨p, q, hA0, hV, rfl, hfz, hnd⟩ := hW
  have hA : DataW.TrodAll enc Try.prog W 0 (fun _ => true) true Try.f13.params.toList args.toList ds p := hA0
  rw [Try.params13] at hA hval
  obtain ⟨v0, vs0, d0, ds0, p0, q0, hargs, rfl, rfl, h0, r0⟩ := trodAll_cons hA
  obtain ⟨rfl, rfl, rfl⟩ := trodAll_nil r0
  obtain rfl : args = #[v0] := by cases args; simp_all
  obtain ⟨rfl, rfl⟩ := trodVars_none hV
  have k0 := h0
  have lt0 : ∀ x ∈ p0, x.block < W.heap.size := by obtain ⟨m, hm⟩ := k0; exact DataW.trod_lt m _ _ _ hm
  obtain ⟨A0, c0, l0, rfl, hl0, hm0, rd0, by0⟩ := open_bytes Try.underlying46 Try.underlying5 (by kernel_rfl) (hval 0 46 v0 rfl rfl) h0
  clear hA0 hval0
  refine (walk A0 c0 l0 W hl0 hm0 rd0 by0).mono fun e W' ⟨he, bel⟩ => ?_
  subst he
  exact ⟨_, rfl, _, _, _, [], _, [], hW', trodAll_mk1 (shut_bool Try.underlying4 _), (trodAll_cons_mk (Below.trod laid_out (by kernel_rfl) (of_decide_eq_true (by kernel_rfl)) k0 bel lt0) trodAll_mk0), rfl, bel.frame _, fun h => by cases h⟩
theorem over : Rows.fnStackLostRow.holds Try.pinned (OpenSpec.ofChange Rows.fnStackLostSpec) :=
  OpenClaim.holds_of_wide 13 Try.f13 rfl rfl rfl rfl rfl rfl rfl ⟨rfl, rfl, rfl, rfl, rfl⟩ rfl rfl rfl rfl rfl (by kernel_rfl) Try.func13 (by kernel_rfl)
    (of_decide_eq_true (by kernel_rfl)) (by unfold Func.isWrapper; first | (rw [if_pos (by decide +kernel)]; kernel_rfl) | (rw [if_neg (by decide +kernel)]; exact ⟨rfl, rfl⟩))
    (fun os started H enc _ => lifted os started H enc)
theorem proved : Rows.FnStackLostSaid := over
end LwKl
end Go.Proofs.Ytlhbjfjphckifaa
