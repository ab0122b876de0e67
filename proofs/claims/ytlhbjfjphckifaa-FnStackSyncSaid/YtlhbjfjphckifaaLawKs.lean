/-
  FnStackSync: after StackSync a power failure does not change the views of the partitions; syncing twice is syncing once. No condition.
-/
import Derived.Test.YtlhbjfjphckifaaBase
import Derived.Test.YtlhbjfjphckifaaNum
import Derived.Test.YtlhbjfjphckifaaInts
import Derived.Test.YtlhbjfjphckifaaApp
import Derived.Test.YtlhbjfjphckifaaIntsW
import Derived.Test.YtlhbjfjphckifaaLib
import Derived.Test.YtlhbjfjphckifaaSpares
import Derived.Test.YtlhbjfjphckifaaOwn
import Derived.Test.YtlhbjfjphckifaaPart
import Derived.Test.YtlhbjfjphckifaaLine
import Derived.Test.YtlhbjfjphckifaaStack
import Derived.Test.YtlhbjfjphckifaaStackM
import Derived.Test.YtlhbjfjphckifaaStackC
import Derived.Test.YtlhbjfjphckifaaStackF
import Derived.Test.YtlhbjfjphckifaaStackS
import Derived.Test.YtlhbjfjphckifaaStackP
import Derived.Test.YtlhbjfjphckifaaStackU
import Derived.Test.YtlhbjfjphckifaaStackCp
import Derived.Test.YtlhbjfjphckifaaStackS2
import Derived.Test.YtlhbjfjphckifaaStackK
import Derived.Test.YtlhbjfjphckifaaStackR
import Derived.Test.YtlhbjfjphckifaaStackD
import Derived.Test.YtlhbjfjphckifaaStackW
import Derived.Test.YtlhbjfjphckifaaStackV
import Derived.Test.YtlhbjfjphckifaaStackQ
import Derived.Test.YtlhbjfjphckifaaCleanS
import Derived.Test.YtlhbjfjphckifaaSameSt
import Derived.Test.YtlhbjfjphckifaaDraw
import Derived.Test.YtlhbjfjphckifaaDrawK
import Derived.Test.YtlhbjfjphckifaaDrawD
import Derived.Test.YtlhbjfjphckifaaDrawSt
import Derived.Test.YtlhbjfjphckifaaDrawStk
import Derived.Test.YtlhbjfjphckifaaDrawStl
import Derived.Test.YtlhbjfjphckifaaOpen
import Derived.IntWalk
namespace Go.Proofs.Ytlhbjfjphckifaa
open Go.RowKit Go.ChangeShapes Go.WideShapes Go.ChangeAt Go.Deep Go.Joins
namespace LwKs
theorem sync_mst {t : Stk} (h : stackB t = false) : (syncS t).mst = 0 := by rw [sync_no h]; rfl
set_option maxHeartbeats 8000000 in
theorem walk (A : Option Addr) (c : Nat) (l : List Int) (w : World) (hl : l.length ≤ c) (hm : c ≤ maxLen) (hr : Rd eByte w A l) (hb : ∀ x ∈ l, 0 ≤ x ∧ x ≤ 255) :
    Calls Try.prog 10 #[.slice A l.length c] w fun e w' => e = .returned (.bool true) ∧ Below w.heap.size w w' := by
  have HB := Lib.hid hb
  clear hb
  by_cases hsz : (1048576 : Int) < l.length
  · unfold maxLen at hm
    go_enter Try.func10, Try.ntmps10
    go_wp2
    go_ret
    exact ⟨rfl, (by repeat (first | with_reducible exact Below.refl _ _ | with_reducible assumption | with_reducible refine below_drewN ?_ _ | with_reducible refine Below.drew ?_ | with_reducible refine Below.alloc ?_ ?_ _ | with_reducible refine Below.setCell ?_ ?_ _ | (with_reducible refine Below.next ?_ (by assumption)) | omega | (focus (simp; omega)) | (focus (simp; done))))⟩
  go_enter Try.func10, Try.ntmps10
  go_wp2_with fail
  refine (drawSts_any A c l _ hl hm hr HB.out).mono ?_
  rintro e w1 ⟨y0, y1, y2, y3, t, rfl, hown, hs60, hcnt, hb1⟩
  obtain ⟨A0, c0, A1, c1, A2, c2, e0, e1, e2, e3⟩ := id hown.rd.mst
  subst e0 e1 e2 e3
  have HCNT := Lib.hid hcnt
  have hz1 := hb1.size
  have HB1 := Lib.hid hb1
  have HS1 := Lib.hid (StackOwn.rd hown)
  have hszs : Hid (sizeStack t ≤ 1099511627776) := Lib.hid (by omega)
  have hs6 := hs60
  unfold sizeStack at hs6
  have LS := Loc.newAt w1 [.slice A0 t.dsk.length c0, .slice A1 t.prt.length c1, .slice A2 t.lns.length c2, .int .i64 t.mst] 35 (b := w1.heap.size) rfl
  clear hb1 hown hcnt hsz
  obtain ⟨x, hx⟩ : ∃ x, x = syncS t := ⟨_, rfl⟩
  have HX := Lib.hid hx
  have hxs := syncS_size t
  rw [← hx] at hxs
  have hxsz : Hid (sizeStack x ≤ 1099511627776) := Lib.hid (by omega)
  have hxs6 := hxs
  unfold sizeStack at hxs6
  clear hx
  go_wp2_with fail
  refine (implSync_c _ _ _ _ t _ (StackRd.below HS1.out (by repeat (first | with_reducible exact Below.refl _ _ | with_reducible refine below_drewN ?_ _ | with_reducible refine Below.drew ?_ | with_reducible refine Below.alloc ?_ ?_ _ | with_reducible refine Below.setCell ?_ ?_ _ | omega | (focus (simp; omega)) | (focus (simp; done))))) hszs.out).mono ?_
  rw [← HX.out]
  rintro e w2 ⟨q0, q1, q2, q3, rfl, O2, hb2⟩
  obtain ⟨B0, d0, B1, d1, B2, d2, e0, e1, e2, e3⟩ := id O2.rd.mst
  subst e0 e1 e2 e3
  replace LS := Loc.carryB LS (fun h => by ((repeat (first | with_reducible exact h | with_reducible refine Loc.drew ?_ | with_reducible refine Loc.drewN ?_ _ | with_reducible refine Loc.alloc ?_ _)); done)) hb2
  have z_LS2 := Loc.lt LS
  have HB2 : Hid (Below w.heap.size w w2) := Lib.hid (Below.next (W := w) (by repeat (first | with_reducible exact HB1.out | with_reducible exact Below.refl _ _ | with_reducible refine below_drewN ?_ _ | with_reducible refine Below.drew ?_ | with_reducible refine Below.alloc ?_ ?_ _ | with_reducible refine Below.setCell ?_ ?_ _ | (with_reducible refine Below.next ?_ (by assumption)) | ((with_reducible refine Below.far' (by assumption) ?_ ?_ ?_); (focus (first | omega | (simp; omega) | (simp; done))); (focus (first | omega | (simp; omega) | (simp; done)))) | omega | (focus (simp; omega)) | (focus (simp; done)))) hb2)
  have HS2 := Lib.hid (StackRd.below HS1.out (Below.next (by repeat (first | with_reducible exact Below.refl _ _ | with_reducible refine below_drewN ?_ _ | with_reducible refine Below.drew ?_ | with_reducible refine Below.alloc ?_ ?_ _ | with_reducible refine Below.setCell ?_ ?_ _ | omega | (focus (simp; omega)) | (focus (simp; done)))) hb2))
  have hz2 := hb2.size
  (try simp at hz2)
  have HX2 := Lib.hid (StackOwn.rd O2)
  have LX := Loc.newAt w2 [.slice B0 x.dsk.length d0, .slice B1 x.prt.length d1, .slice B2 x.lns.length d2, .int .i64 x.mst] 35 (b := w2.heap.size) rfl
  have LSa := Loc.alloc LS (.cells #[.slice B0 x.dsk.length d0, .slice B1 x.prt.length d1, .slice B2 x.lns.length d2, .int .i64 x.mst] 35)
  clear hb2 O2
  obtain ⟨s0, s1, s2, s3, sf⟩ := LSa.four
  obtain ⟨r0, r1, r2, r3, rf⟩ := LX.four
  go_wp2_with fail
  go_region_held3 (fun w' => w'.cell? ⟨w1.heap.size, 0, none⟩ = some (.slice A0 t.dsk.length c0) ∧ w'.cell? ⟨w1.heap.size, 1, none⟩ = some (.slice A1 t.prt.length c1) ∧ w'.cell? ⟨w1.heap.size, 2, none⟩ = some (.slice A2 t.lns.length c2) ∧ w'.cell? ⟨w1.heap.size, 3, none⟩ = some (.int .i64 t.mst) ∧ w'.cell? ⟨w2.heap.size, 0, none⟩ = some (.slice B0 x.dsk.length d0) ∧ w'.cell? ⟨w2.heap.size, 1, none⟩ = some (.slice B1 x.prt.length d1) ∧ w'.cell? ⟨w2.heap.size, 2, none⟩ = some (.slice B2 x.lns.length d2) ∧ w'.cell? ⟨w2.heap.size, 3, none⟩ = some (.int .i64 x.mst)) (first | (with_reducible assumption) | (refine ⟨?_, ?_, ?_, ?_, ?_, ?_, ?_, ?_⟩ <;> with_reducible assumption) | go_keep | (refine ⟨?_, ?_, ?_, ?_, ?_, ?_, ?_, ?_⟩ <;> (simp [go_sem, *]; done))) (first
    | (go_at_call 18; go_must ((with_reducible refine (specSync_c _ _ _ _ t _ (StackRd.below HS2.out (by repeat (first | with_reducible exact Below.refl _ _ | with_reducible refine below_drewN ?_ _ | with_reducible refine Below.drew ?_ | with_reducible refine Below.alloc ?_ ?_ _ | with_reducible refine Below.setCell ?_ ?_ _ | omega | (focus (simp; omega)) | (focus (simp; done))))) hszs.out).mono ?_); rw [← HX.out]; rintro e w3 ⟨p0, p1, p2, p3, rfl, O3, hb3⟩; have LLS3 := Loc.carryB LS (fun h => by ((repeat (first | with_reducible exact h | with_reducible refine Loc.drew ?_ | with_reducible refine Loc.drewN ?_ _ | with_reducible refine Loc.alloc ?_ _)); done)) hb3; obtain ⟨x0_LS3, x1_LS3, x2_LS3, x3_LS3, xf_LS3⟩ := LLS3.four; have z_LS3 := LLS3.lt; have LLX3 := Loc.carryB LX (fun h => by ((repeat (first | with_reducible exact h | with_reducible refine Loc.drew ?_ | with_reducible refine Loc.drewN ?_ _ | with_reducible refine Loc.alloc ?_ _)); done)) hb3; obtain ⟨x0_LX3, x1_LX3, x2_LX3, x3_LX3, xf_LX3⟩ := LLX3.four; have z_LX3 := LLX3.lt; have H3 := Lib.hid (StackOwn.rd O3); have HB3 : Hid (Below w.heap.size w w3) := Lib.hid (Below.next (W := w) (by repeat (first | with_reducible exact HB2.out | with_reducible exact Below.refl _ _ | with_reducible refine below_drewN ?_ _ | with_reducible refine Below.drew ?_ | with_reducible refine Below.alloc ?_ ?_ _ | with_reducible refine Below.setCell ?_ ?_ _ | (with_reducible refine Below.next ?_ (by assumption)) | ((with_reducible refine Below.far' (by assumption) ?_ ?_ ?_); (focus (first | omega | (simp; omega) | (simp; done))); (focus (first | omega | (simp; omega) | (simp; done)))) | omega | (focus (simp; omega)) | (focus (simp; done)))) hb3); have HS3 := Lib.hid (StackRd.below HS2.out (Below.next (by repeat (first | with_reducible exact Below.refl _ _ | with_reducible refine below_drewN ?_ _ | with_reducible refine Below.drew ?_ | with_reducible refine Below.alloc ?_ ?_ _ | with_reducible refine Below.setCell ?_ ?_ _ | omega | (focus (simp; omega)) | (focus (simp; done)))) hb3)); have HX3 := Lib.hid (StackRd.below HX2.out (Below.next (by repeat (first | with_reducible exact Below.refl _ _ | with_reducible refine below_drewN ?_ _ | with_reducible refine Below.drew ?_ | with_reducible refine Below.alloc ?_ ?_ _ | with_reducible refine Below.setCell ?_ ?_ _ | omega | (focus (simp; omega)) | (focus (simp; done)))) hb3)); have hz3 := hb3.size; (try simp at hz3); clear O3 hb3))
    | (go_at_call 34; go_must ((with_reducible refine (sameStack_c _ _ _ _ _ _ _ _ x _ (StackRd.below HX3.out (by repeat (first | with_reducible exact Below.refl _ _ | with_reducible refine below_drewN ?_ _ | with_reducible refine Below.drew ?_ | with_reducible refine Below.alloc ?_ ?_ _ | with_reducible refine Below.setCell ?_ ?_ _ | omega | (focus (simp; omega)) | (focus (simp; done))))) (StackRd.below H3.out (by repeat (first | with_reducible exact Below.refl _ _ | with_reducible refine below_drewN ?_ _ | with_reducible refine Below.drew ?_ | with_reducible refine Below.alloc ?_ ?_ _ | with_reducible refine Below.setCell ?_ ?_ _ | omega | (focus (simp; omega)) | (focus (simp; done))))) hxsz.out).mono ?_); rintro e w4 ⟨rfl, hb4⟩; have LLLS34 := Loc.carryB LLS3 (fun h => by ((repeat (first | with_reducible exact h | with_reducible refine Loc.drew ?_ | with_reducible refine Loc.drewN ?_ _ | with_reducible refine Loc.alloc ?_ _)); done)) hb4; obtain ⟨x0_LLS34, x1_LLS34, x2_LLS34, x3_LLS34, xf_LLS34⟩ := LLLS34.four; have z_LLS34 := LLLS34.lt; have LLLX34 := Loc.carryB LLX3 (fun h => by ((repeat (first | with_reducible exact h | with_reducible refine Loc.drew ?_ | with_reducible refine Loc.drewN ?_ _ | with_reducible refine Loc.alloc ?_ _)); done)) hb4; obtain ⟨x0_LLX34, x1_LLX34, x2_LLX34, x3_LLX34, xf_LLX34⟩ := LLLX34.four; have z_LLX34 := LLLX34.lt; have HB4 : Hid (Below w.heap.size w w4) := Lib.hid (Below.next (W := w) (by repeat (first | with_reducible exact HB3.out | with_reducible exact Below.refl _ _ | with_reducible refine below_drewN ?_ _ | with_reducible refine Below.drew ?_ | with_reducible refine Below.alloc ?_ ?_ _ | with_reducible refine Below.setCell ?_ ?_ _ | (with_reducible refine Below.next ?_ (by assumption)) | ((with_reducible refine Below.far' (by assumption) ?_ ?_ ?_); (focus (first | omega | (simp; omega) | (simp; done))); (focus (first | omega | (simp; omega) | (simp; done)))) | omega | (focus (simp; omega)) | (focus (simp; done)))) hb4); have HS4 := Lib.hid (StackRd.below HS3.out (Below.next (by repeat (first | with_reducible exact Below.refl _ _ | with_reducible refine below_drewN ?_ _ | with_reducible refine Below.drew ?_ | with_reducible refine Below.alloc ?_ ?_ _ | with_reducible refine Below.setCell ?_ ?_ _ | omega | (focus (simp; omega)) | (focus (simp; done)))) hb4)); have HX4 := Lib.hid (StackRd.below HX3.out (Below.next (by repeat (first | with_reducible exact Below.refl _ _ | with_reducible refine below_drewN ?_ _ | with_reducible refine Below.drew ?_ | with_reducible refine Below.alloc ?_ ?_ _ | with_reducible refine Below.setCell ?_ ?_ _ | omega | (focus (simp; omega)) | (focus (simp; done)))) hb4)); have hz4 := hb4.size; (try simp at hz4); clear hb4)))
  clear LSa LLS3 LLX3 LS LX HS1 HS2 HS3 HX2 HX3 H3 HB1 HB2 HB3 s0 s1 s2 s3 sf r0 r1 r2 r3 rf x0_LS3 x1_LS3 x2_LS3 x3_LS3 xf_LS3 x0_LX3 x1_LX3 x2_LX3 x3_LX3 xf_LX3
  have LS := LLLS34
  have LX := LLLX34
  clear LLLS34 LLLX34
  cases hv : stackB t
  · have hm : x.mst = 0 := by rw [HX.out]; exact sync_mst hv
    have hm0 : (x.mst == 0) = true := by rw [hm]; rfl
    clear hm hv
    go_wp2_with (go_at_call 31; refine (alive_any _).mono ?_; rintro e w6 ⟨rfl, hb6⟩)
    go_ret
    exact ⟨rfl, Below.next (W := w) HB4.out hb6⟩
  · have hxok : stackB x = true := by rw [HX.out]; exact sync_ok hv
    have hm := mst_pos hxok
    have hm0 : (x.mst == 0) = false := by rw [beq_eq_false_iff_ne]; omega
    obtain ⟨dn, hdn⟩ : ∃ dn, dn = crashS x := ⟨_, rfl⟩
    have HDN := Lib.hid hdn
    have hds := crashS_size x
    rw [← hdn] at hds
    have hdsz : Hid (sizeStack dn ≤ 1099511627776) := Lib.hid (by omega)
    have hds6 := hds
    unfold sizeStack at hds6
    have HXV : Hid (∀ p, partV x p = partV t p) := Lib.hid (fun p => by rw [HX.out]; exact sync_view hv p)
    have HDV : Hid (cleanB t.lns t.dsk = true → ∀ p, partV dn p = partV t p) := Lib.hid (fun hc p => by rw [hdn, HX.out]; exact syncCrash_view hv hc p)
    have HSS : Hid (syncS x = x) := Lib.hid (by rw [HX.out]; exact sync_sync hv)
    have HCV := Lib.hid (cache_iff.1 (stack_true.1 hv).2.2)
    have hpv := fun p => partV_size t p
    have HPZ := Lib.hid hpv
    clear hdn hv hxok hm hpv
    go_wp2_with fail
    refine (implCrash_c _ _ _ _ x _ (StackRd.below HX4.out (by repeat (first | with_reducible exact Below.refl _ _ | with_reducible refine below_drewN ?_ _ | with_reducible refine Below.drew ?_ | with_reducible refine Below.alloc ?_ ?_ _ | with_reducible refine Below.setCell ?_ ?_ _ | omega | (focus (simp; omega)) | (focus (simp; done))))) hxsz.out).mono ?_
    rw [← HDN.out]
    rintro e w5 ⟨z0, z1, z2, z3, rfl, O5, hb5⟩
    obtain ⟨C0, g0, C1, g1, C2, g2, e0, e1, e2, e3⟩ := id O5.rd.mst
    subst e0 e1 e2 e3
    replace LS := Loc.carryB LS (fun h => by ((repeat (first | with_reducible exact h | with_reducible refine Loc.drew ?_ | with_reducible refine Loc.drewN ?_ _ | with_reducible refine Loc.alloc ?_ _)); done)) hb5
    have z_LS5 := Loc.lt LS
    replace LX := Loc.carryB LX (fun h => by ((repeat (first | with_reducible exact h | with_reducible refine Loc.drew ?_ | with_reducible refine Loc.drewN ?_ _ | with_reducible refine Loc.alloc ?_ _)); done)) hb5
    have z_LX5 := Loc.lt LX
    have HB5 : Hid (Below w.heap.size w w5) := Lib.hid (Below.next (W := w) (by repeat (first | with_reducible exact HB4.out | with_reducible exact Below.refl _ _ | with_reducible refine below_drewN ?_ _ | with_reducible refine Below.drew ?_ | with_reducible refine Below.alloc ?_ ?_ _ | with_reducible refine Below.setCell ?_ ?_ _ | (with_reducible refine Below.next ?_ (by assumption)) | ((with_reducible refine Below.far' (by assumption) ?_ ?_ ?_); (focus (first | omega | (simp; omega) | (simp; done))); (focus (first | omega | (simp; omega) | (simp; done)))) | omega | (focus (simp; omega)) | (focus (simp; done)))) hb5)
    have HS5 := Lib.hid (StackRd.below HS4.out (Below.next (by repeat (first | with_reducible exact Below.refl _ _ | with_reducible refine below_drewN ?_ _ | with_reducible refine Below.drew ?_ | with_reducible refine Below.alloc ?_ ?_ _ | with_reducible refine Below.setCell ?_ ?_ _ | omega | (focus (simp; omega)) | (focus (simp; done)))) hb5))
    have hz5 := hb5.size
    (try simp at hz5)
    have HX5 := Lib.hid (StackRd.below HX4.out (Below.next (by repeat (first | with_reducible exact Below.refl _ _ | with_reducible refine below_drewN ?_ _ | with_reducible refine Below.drew ?_ | with_reducible refine Below.alloc ?_ ?_ _ | with_reducible refine Below.setCell ?_ ?_ _ | omega | (focus (simp; omega)) | (focus (simp; done)))) hb5))
    have HD5 := Lib.hid (StackOwn.rd O5)
    have LD := Loc.newAt w5 [.slice C0 dn.dsk.length g0, .slice C1 dn.prt.length g1, .slice C2 dn.lns.length g2, .int .i64 dn.mst] 35 (b := w5.heap.size) rfl
    replace LS := Loc.alloc LS (.cells #[.slice C0 dn.dsk.length g0, .slice C1 dn.prt.length g1, .slice C2 dn.lns.length g2, .int .i64 dn.mst] 35)
    replace LX := Loc.alloc LX (.cells #[.slice C0 dn.dsk.length g0, .slice C1 dn.prt.length g1, .slice C2 dn.lns.length g2, .int .i64 dn.mst] 35)
    have HB6 : Hid (Below w.heap.size w (w5.alloc (.cells #[.slice C0 dn.dsk.length g0, .slice C1 dn.prt.length g1, .slice C2 dn.lns.length g2, .int .i64 dn.mst] 35))) := Lib.hid (by repeat (first | with_reducible exact HB5.out | with_reducible exact Below.refl _ _ | with_reducible refine below_drewN ?_ _ | with_reducible refine Below.drew ?_ | with_reducible refine Below.alloc ?_ ?_ _ | with_reducible refine Below.setCell ?_ ?_ _ | (with_reducible refine Below.next ?_ (by assumption)) | ((with_reducible refine Below.far' (by assumption) ?_ ?_ ?_); (focus (first | omega | (simp; omega) | (simp; done))); (focus (first | omega | (simp; omega) | (simp; done)))) | omega | (focus (simp; omega)) | (focus (simp; done))))
    have HS6 : Hid (StackRd (w5.alloc (.cells #[.slice C0 dn.dsk.length g0, .slice C1 dn.prt.length g1, .slice C2 dn.lns.length g2, .int .i64 dn.mst] 35)) [.slice A0 t.dsk.length c0, .slice A1 t.prt.length c1, .slice A2 t.lns.length c2, .int .i64 t.mst] t) := Lib.hid (StackRd.below HS5.out (by repeat (first | with_reducible exact Below.refl _ _ | with_reducible refine below_drewN ?_ _ | with_reducible refine Below.drew ?_ | with_reducible refine Below.alloc ?_ ?_ _ | with_reducible refine Below.setCell ?_ ?_ _ | omega | (focus (simp; omega)) | (focus (simp; done)))))
    have HX6 : Hid (StackRd (w5.alloc (.cells #[.slice C0 dn.dsk.length g0, .slice C1 dn.prt.length g1, .slice C2 dn.lns.length g2, .int .i64 dn.mst] 35)) [.slice B0 x.dsk.length d0, .slice B1 x.prt.length d1, .slice B2 x.lns.length d2, .int .i64 x.mst] x) := Lib.hid (StackRd.below HX5.out (by repeat (first | with_reducible exact Below.refl _ _ | with_reducible refine below_drewN ?_ _ | with_reducible refine Below.drew ?_ | with_reducible refine Below.alloc ?_ ?_ _ | with_reducible refine Below.setCell ?_ ?_ _ | omega | (focus (simp; omega)) | (focus (simp; done)))))
    have HD6 : Hid (StackRd (w5.alloc (.cells #[.slice C0 dn.dsk.length g0, .slice C1 dn.prt.length g1, .slice C2 dn.lns.length g2, .int .i64 dn.mst] 35)) [.slice C0 dn.dsk.length g0, .slice C1 dn.prt.length g1, .slice C2 dn.lns.length g2, .int .i64 dn.mst] dn) := Lib.hid (StackRd.below HD5.out (by repeat (first | with_reducible exact Below.refl _ _ | with_reducible refine below_drewN ?_ _ | with_reducible refine Below.drew ?_ | with_reducible refine Below.alloc ?_ ?_ _ | with_reducible refine Below.setCell ?_ ?_ _ | omega | (focus (simp; omega)) | (focus (simp; done)))))
    clear hb5 O5 HB4 HB5 HS4 HS5 HX4 HX5 HD5 x0_LLS34 x1_LLS34 x2_LLS34 x3_LLS34 xf_LLS34 x0_LLX34 x1_LLX34 x2_LLX34 x3_LLX34 xf_LLX34
    go_wp2
    go_loopw [6] (fun i wr => ∃ k : Nat, k ≤ t.prt.length ∧ i = .int .i64 k ∧ Loc wr w1.heap.size [.slice A0 t.dsk.length c0, .slice A1 t.prt.length c1, .slice A2 t.lns.length c2, .int .i64 t.mst] ∧ Loc wr w2.heap.size [.slice B0 x.dsk.length d0, .slice B1 x.prt.length d1, .slice B2 x.lns.length d2, .int .i64 x.mst] ∧ Loc wr w5.heap.size [.slice C0 dn.dsk.length g0, .slice C1 dn.prt.length g1, .slice C2 dn.lns.length g2, .int .i64 dn.mst] ∧ Below w.heap.size w wr ∧ StackRd wr [.slice A0 t.dsk.length c0, .slice A1 t.prt.length c1, .slice A2 t.lns.length c2, .int .i64 t.mst] t ∧ StackRd wr [.slice B0 x.dsk.length d0, .slice B1 x.prt.length d1, .slice B2 x.lns.length d2, .int .i64 x.mst] x ∧ StackRd wr [.slice C0 dn.dsk.length g0, .slice C1 dn.prt.length g1, .slice C2 dn.lns.length g2, .int .i64 dn.mst] dn) (fun i _ => t.prt.length - (intOf i).toNat)
    case atStart => exact ⟨0, Nat.zero_le _, rfl, LS, LX, LD, HB6.out, HS6.out, HX6.out, HD6.out⟩
    case round =>
      clear LS LX LD HB6 HS6 HX6 HD6
      obtain ⟨k, hk, rfl, LS, LX, LD, hbw, hsr, hxr, hdr⟩ := hrel
      obtain ⟨wa, hwa⟩ : ∃ x, x = wr := ⟨_, rfl⟩
      subst hwa
      have HBW := Lib.hid hbw
      have HSR := Lib.hid hsr
      have HXR := Lib.hid hxr
      have HDR := Lib.hid hdr
      have zS := LS.lt
      have zX := LX.lt
      have zD := LD.lt
      obtain ⟨s0, s1, s2, s3, sf⟩ := LS.four
      obtain ⟨r0, r1, r2, r3, rf⟩ := LX.four
      clear hbw hsr hxr hdr
      by_cases hlt : k < t.prt.length
      · go_wp2_with fail
        refine (clean_c _ _ t.lns t.mst t.dsk _ (SRd.below HSR.out.parts.2.2 (by repeat (first | with_reducible exact Below.refl _ _ | with_reducible refine below_drewN ?_ _ | with_reducible refine Below.drew ?_ | with_reducible refine Below.alloc ?_ ?_ _ | with_reducible refine Below.setCell ?_ ?_ _ | omega | (focus (simp; omega)) | (focus (simp; done))))) (SRd.below HSR.out.parts.1 (by repeat (first | with_reducible exact Below.refl _ _ | with_reducible refine below_drewN ?_ _ | with_reducible refine Below.drew ?_ | with_reducible refine Below.alloc ?_ ?_ _ | with_reducible refine Below.setCell ?_ ?_ _ | omega | (focus (simp; omega)) | (focus (simp; done))))) HCV.out).mono ?_
        rintro e w6 ⟨rfl, hb6⟩
        have HDV' := HDV
        obtain ⟨cl, hcl⟩ : ∃ cl, cl = cleanB t.lns t.dsk := ⟨_, rfl⟩
        rw [← hcl] at HDV' ⊢
        clear hcl
        replace LS := Loc.carryB LS (fun h => by ((repeat (first | with_reducible exact h | with_reducible refine Loc.drew ?_ | with_reducible refine Loc.drewN ?_ _ | with_reducible refine Loc.alloc ?_ _)); done)) hb6
        replace LX := Loc.carryB LX (fun h => by ((repeat (first | with_reducible exact h | with_reducible refine Loc.drew ?_ | with_reducible refine Loc.drewN ?_ _ | with_reducible refine Loc.alloc ?_ _)); done)) hb6
        replace LD := Loc.carryB LD (fun h => by ((repeat (first | with_reducible exact h | with_reducible refine Loc.drew ?_ | with_reducible refine Loc.drewN ?_ _ | with_reducible refine Loc.alloc ?_ _)); done)) hb6
        have zS6 := LS.lt
        have zX6 := LX.lt
        have zD6 := LD.lt
        have HB6 : Hid (Below w.heap.size w w6) := Lib.hid (Below.next (W := w) HBW.out hb6)
        have HS6 := Lib.hid (StackRd.below HSR.out (Below.next (by repeat (first | with_reducible exact Below.refl _ _ | with_reducible refine below_drewN ?_ _ | with_reducible refine Below.drew ?_ | with_reducible refine Below.alloc ?_ ?_ _ | with_reducible refine Below.setCell ?_ ?_ _ | omega | (focus (simp; omega)) | (focus (simp; done)))) hb6))
        have HX6 := Lib.hid (StackRd.below HXR.out (Below.next (by repeat (first | with_reducible exact Below.refl _ _ | with_reducible refine below_drewN ?_ _ | with_reducible refine Below.drew ?_ | with_reducible refine Below.alloc ?_ ?_ _ | with_reducible refine Below.setCell ?_ ?_ _ | omega | (focus (simp; omega)) | (focus (simp; done)))) hb6))
        have HD6 := Lib.hid (StackRd.below HDR.out (Below.next (by repeat (first | with_reducible exact Below.refl _ _ | with_reducible refine below_drewN ?_ _ | with_reducible refine Below.drew ?_ | with_reducible refine Below.alloc ?_ ?_ _ | with_reducible refine Below.setCell ?_ ?_ _ | omega | (focus (simp; omega)) | (focus (simp; done)))) hb6))
        clear hb6 s0 s1 s2 s3 sf r0 r1 r2 r3 rf HBW HSR HXR HDR
        obtain ⟨s0, s1, s2, s3, sf⟩ := LS.four
        obtain ⟨r0, r1, r2, r3, rf⟩ := LX.four
        obtain ⟨u0, u1, u2, u3, uf⟩ := LD.four
        cases cl
        · go_wp2
          go_region_held3 (fun w' => w'.cell? ⟨w2.heap.size, 0, none⟩ = some (.slice B0 x.dsk.length d0) ∧ w'.cell? ⟨w2.heap.size, 1, none⟩ = some (.slice B1 x.prt.length d1) ∧ w'.cell? ⟨w2.heap.size, 2, none⟩ = some (.slice B2 x.lns.length d2) ∧ w'.cell? ⟨w2.heap.size, 3, none⟩ = some (.int .i64 x.mst)) (first | (with_reducible assumption) | (refine ⟨?_, ?_, ?_, ?_⟩ <;> with_reducible assumption) | go_keep | (refine ⟨?_, ?_, ?_, ?_⟩ <;> (simp [go_sem, *]; done))) (first
            | (go_at_call 20; go_must ((with_reducible refine (implSync_c _ _ _ _ x _ (StackRd.below HX6.out (by repeat (first | with_reducible exact Below.refl _ _ | with_reducible refine below_drewN ?_ _ | with_reducible refine Below.drew ?_ | with_reducible refine Below.alloc ?_ ?_ _ | with_reducible refine Below.setCell ?_ ?_ _ | omega | (focus (simp; omega)) | (focus (simp; done))))) hxsz.out).mono ?_); rw [HSS.out]; rintro e w20 ⟨p0, p1, p2, p3, rfl, O20, hb20⟩; have LX20 := Loc.carryB LX (fun h => by ((repeat (first | with_reducible exact h | with_reducible refine Loc.drew ?_ | with_reducible refine Loc.drewN ?_ _ | with_reducible refine Loc.alloc ?_ _)); done)) hb20; obtain ⟨rr0, rr1, rr2, rr3, rrf⟩ := LX20.four; have H20 := Lib.hid (StackOwn.rd O20); have HB20 : Hid (Below w.heap.size w w20) := Lib.hid (Below.next (W := w) (by repeat (first | with_reducible exact HB6.out | with_reducible exact Below.refl _ _ | with_reducible refine below_drewN ?_ _ | with_reducible refine Below.drew ?_ | with_reducible refine Below.alloc ?_ ?_ _ | with_reducible refine Below.setCell ?_ ?_ _ | (with_reducible refine Below.next ?_ (by assumption)) | ((with_reducible refine Below.far' (by assumption) ?_ ?_ ?_); (focus (first | omega | (simp; omega) | (simp; done))); (focus (first | omega | (simp; omega) | (simp; done)))) | omega | (focus (simp; omega)) | (focus (simp; done)))) hb20); have HX20 := Lib.hid (StackRd.below HX6.out (Below.next (by repeat (first | with_reducible exact Below.refl _ _ | with_reducible refine below_drewN ?_ _ | with_reducible refine Below.drew ?_ | with_reducible refine Below.alloc ?_ ?_ _ | with_reducible refine Below.setCell ?_ ?_ _ | omega | (focus (simp; omega)) | (focus (simp; done)))) hb20)); have zX20 := LX20.lt; have hz20 := hb20.size; (try simp at hz20); clear O20 hb20))
            | (go_at_call 34; go_must ((with_reducible refine (sameStack_c _ _ _ _ _ _ _ _ x _ (StackRd.below H20.out (by repeat (first | with_reducible exact Below.refl _ _ | with_reducible refine below_drewN ?_ _ | with_reducible refine Below.drew ?_ | with_reducible refine Below.alloc ?_ ?_ _ | with_reducible refine Below.setCell ?_ ?_ _ | omega | (focus (simp; omega)) | (focus (simp; done))))) (StackRd.below HX20.out (by repeat (first | with_reducible exact Below.refl _ _ | with_reducible refine below_drewN ?_ _ | with_reducible refine Below.drew ?_ | with_reducible refine Below.alloc ?_ ?_ _ | with_reducible refine Below.setCell ?_ ?_ _ | omega | (focus (simp; omega)) | (focus (simp; done))))) hxsz.out).mono ?_); rintro e w21 ⟨rfl, hb21⟩; have LX21 := Loc.carryB LX20 (fun h => by ((repeat (first | with_reducible exact h | with_reducible refine Loc.drew ?_ | with_reducible refine Loc.drewN ?_ _ | with_reducible refine Loc.alloc ?_ _)); done)) hb21; obtain ⟨tt0, tt1, tt2, tt3, ttf⟩ := LX21.four; have HB21 : Hid (Below w.heap.size w w21) := Lib.hid (Below.next (W := w) (by repeat (first | with_reducible exact HB20.out | with_reducible exact Below.refl _ _ | with_reducible refine below_drewN ?_ _ | with_reducible refine Below.drew ?_ | with_reducible refine Below.alloc ?_ ?_ _ | with_reducible refine Below.setCell ?_ ?_ _ | (with_reducible refine Below.next ?_ (by assumption)) | ((with_reducible refine Below.far' (by assumption) ?_ ?_ ?_); (focus (first | omega | (simp; omega) | (simp; done))); (focus (first | omega | (simp; omega) | (simp; done)))) | omega | (focus (simp; omega)) | (focus (simp; done)))) hb21); clear hb21)))
          go_wp2
          go_ret
          exact ⟨rfl, HB21.out⟩
        · obtain ⟨v, hv⟩ : ∃ v, v = partV t k := ⟨_, rfl⟩
          have HV := Lib.hid hv
          have HDE : Hid (partV dn k = v) := Lib.hid (by rw [HDV'.out rfl, hv])
          have HXE : Hid (partV x k = v) := Lib.hid (by rw [HXV.out, hv])
          have hvl : v.length ≤ 1000 := by have := HPZ.out k; rw [← hv] at this; omega
          have LS6 := LS
          have LX6 := LX
          have LD6 := LD
          clear hv
          go_wp2_with fail
          go_region_held3 (fun w' => w'.cell? ⟨w1.heap.size, 0, none⟩ = some (.slice A0 t.dsk.length c0) ∧ w'.cell? ⟨w1.heap.size, 1, none⟩ = some (.slice A1 t.prt.length c1) ∧ w'.cell? ⟨w1.heap.size, 2, none⟩ = some (.slice A2 t.lns.length c2) ∧ w'.cell? ⟨w1.heap.size, 3, none⟩ = some (.int .i64 t.mst) ∧ w'.cell? ⟨w2.heap.size, 0, none⟩ = some (.slice B0 x.dsk.length d0) ∧ w'.cell? ⟨w2.heap.size, 1, none⟩ = some (.slice B1 x.prt.length d1) ∧ w'.cell? ⟨w2.heap.size, 2, none⟩ = some (.slice B2 x.lns.length d2) ∧ w'.cell? ⟨w2.heap.size, 3, none⟩ = some (.int .i64 x.mst) ∧ w'.cell? ⟨w5.heap.size, 0, none⟩ = some (.slice C0 dn.dsk.length g0) ∧ w'.cell? ⟨w5.heap.size, 1, none⟩ = some (.slice C1 dn.prt.length g1) ∧ w'.cell? ⟨w5.heap.size, 2, none⟩ = some (.slice C2 dn.lns.length g2) ∧ w'.cell? ⟨w5.heap.size, 3, none⟩ = some (.int .i64 dn.mst)) (first | (with_reducible assumption) | (refine ⟨?_, ?_, ?_, ?_, ?_, ?_, ?_, ?_, ?_, ?_, ?_, ?_⟩ <;> with_reducible assumption) | go_keep | (refine ⟨?_, ?_, ?_, ?_, ?_, ?_, ?_, ?_, ?_, ?_, ?_, ?_⟩ <;> (simp [go_sem, *]; done))) (first
            | (go_at_call 37; (with_reducible refine (implPV_c _ _ _ _ dn k w6.drew (StackRd.below HD6.out (by repeat (first | with_reducible exact Below.refl _ _ | with_reducible refine below_drewN ?_ _ | with_reducible refine Below.drew ?_ | with_reducible refine Below.alloc ?_ ?_ _ | with_reducible refine Below.setCell ?_ ?_ _ | omega | (focus (simp; omega)) | (focus (simp; done))))) hdsz.out).mono ?_); go_must (rw [HDE.out]; rintro e w7 ⟨v7, rfl, o7, hb7⟩; obtain ⟨A7, c7, gg7, rfl, -, -⟩ := id o7; have H7 := Lib.hid (SOwn.rd o7); have LS7 := Loc.carryB LS6 (fun h => by ((repeat (first | with_reducible exact h | with_reducible refine Loc.drew ?_ | with_reducible refine Loc.drewN ?_ _ | with_reducible refine Loc.alloc ?_ _)); done)) hb7; obtain ⟨s0_7, s1_7, s2_7, s3_7, sf_7⟩ := LS7.four; have zS_7 := LS7.lt; have LX7 := Loc.carryB LX6 (fun h => by ((repeat (first | with_reducible exact h | with_reducible refine Loc.drew ?_ | with_reducible refine Loc.drewN ?_ _ | with_reducible refine Loc.alloc ?_ _)); done)) hb7; obtain ⟨r0_7, r1_7, r2_7, r3_7, rf_7⟩ := LX7.four; have zX_7 := LX7.lt; have LD7 := Loc.carryB LD6 (fun h => by ((repeat (first | with_reducible exact h | with_reducible refine Loc.drew ?_ | with_reducible refine Loc.drewN ?_ _ | with_reducible refine Loc.alloc ?_ _)); done)) hb7; obtain ⟨u0_7, u1_7, u2_7, u3_7, uf_7⟩ := LD7.four; have zD_7 := LD7.lt; have HB7 : Hid (Below w.heap.size w w7) := Lib.hid (Below.next (W := w) (by repeat (first | with_reducible exact HB6.out | with_reducible exact Below.refl _ _ | with_reducible refine below_drewN ?_ _ | with_reducible refine Below.drew ?_ | with_reducible refine Below.alloc ?_ ?_ _ | with_reducible refine Below.setCell ?_ ?_ _ | (with_reducible refine Below.next ?_ (by assumption)) | ((with_reducible refine Below.far' (by assumption) ?_ ?_ ?_); (focus (first | omega | (simp; omega) | (simp; done))); (focus (first | omega | (simp; omega) | (simp; done)))) | omega | (focus (simp; omega)) | (focus (simp; done)))) hb7); have HS7 := Lib.hid (StackRd.below HS6.out (Below.next (by repeat (first | with_reducible exact Below.refl _ _ | with_reducible refine below_drewN ?_ _ | with_reducible refine Below.drew ?_ | with_reducible refine Below.alloc ?_ ?_ _ | with_reducible refine Below.setCell ?_ ?_ _ | omega | (focus (simp; omega)) | (focus (simp; done)))) hb7)); have HX7 := Lib.hid (StackRd.below HX6.out (Below.next (by repeat (first | with_reducible exact Below.refl _ _ | with_reducible refine below_drewN ?_ _ | with_reducible refine Below.drew ?_ | with_reducible refine Below.alloc ?_ ?_ _ | with_reducible refine Below.setCell ?_ ?_ _ | omega | (focus (simp; omega)) | (focus (simp; done)))) hb7)); have HD7 := Lib.hid (StackRd.below HD6.out (Below.next (by repeat (first | with_reducible exact Below.refl _ _ | with_reducible refine below_drewN ?_ _ | with_reducible refine Below.drew ?_ | with_reducible refine Below.alloc ?_ ?_ _ | with_reducible refine Below.setCell ?_ ?_ _ | omega | (focus (simp; omega)) | (focus (simp; done)))) hb7)); have hz7 := hb7.size; (try simp at hz7); clear hb7))
            | (go_at_call 37; (with_reducible refine (implPV_c _ _ _ _ t k w7 (StackRd.below HS7.out (by repeat (first | with_reducible exact Below.refl _ _ | with_reducible refine below_drewN ?_ _ | with_reducible refine Below.drew ?_ | with_reducible refine Below.alloc ?_ ?_ _ | with_reducible refine Below.setCell ?_ ?_ _ | omega | (focus (simp; omega)) | (focus (simp; done))))) hszs.out).mono ?_); go_must (rw [← HV.out]; rintro e w8 ⟨v8, rfl, o8, hb8⟩; obtain ⟨A8, c8, gg8, rfl, -, -⟩ := id o8; have H8 := Lib.hid (SOwn.rd o8); have H78 := Lib.hid (SRd.below H7.out (Below.next (by repeat (first | with_reducible exact Below.refl _ _ | with_reducible refine below_drewN ?_ _ | with_reducible refine Below.drew ?_ | with_reducible refine Below.alloc ?_ ?_ _ | with_reducible refine Below.setCell ?_ ?_ _ | omega | (focus (simp; omega)) | (focus (simp; done)))) hb8)); have LS8 := Loc.carryB LS7 (fun h => by ((repeat (first | with_reducible exact h | with_reducible refine Loc.drew ?_ | with_reducible refine Loc.drewN ?_ _ | with_reducible refine Loc.alloc ?_ _)); done)) hb8; obtain ⟨s0_8, s1_8, s2_8, s3_8, sf_8⟩ := LS8.four; have zS_8 := LS8.lt; have LX8 := Loc.carryB LX7 (fun h => by ((repeat (first | with_reducible exact h | with_reducible refine Loc.drew ?_ | with_reducible refine Loc.drewN ?_ _ | with_reducible refine Loc.alloc ?_ _)); done)) hb8; obtain ⟨r0_8, r1_8, r2_8, r3_8, rf_8⟩ := LX8.four; have zX_8 := LX8.lt; have LD8 := Loc.carryB LD7 (fun h => by ((repeat (first | with_reducible exact h | with_reducible refine Loc.drew ?_ | with_reducible refine Loc.drewN ?_ _ | with_reducible refine Loc.alloc ?_ _)); done)) hb8; obtain ⟨u0_8, u1_8, u2_8, u3_8, uf_8⟩ := LD8.four; have zD_8 := LD8.lt; have HB8 : Hid (Below w.heap.size w w8) := Lib.hid (Below.next (W := w) (by repeat (first | with_reducible exact HB7.out | with_reducible exact Below.refl _ _ | with_reducible refine below_drewN ?_ _ | with_reducible refine Below.drew ?_ | with_reducible refine Below.alloc ?_ ?_ _ | with_reducible refine Below.setCell ?_ ?_ _ | (with_reducible refine Below.next ?_ (by assumption)) | ((with_reducible refine Below.far' (by assumption) ?_ ?_ ?_); (focus (first | omega | (simp; omega) | (simp; done))); (focus (first | omega | (simp; omega) | (simp; done)))) | omega | (focus (simp; omega)) | (focus (simp; done)))) hb8); have HS8 := Lib.hid (StackRd.below HS7.out (Below.next (by repeat (first | with_reducible exact Below.refl _ _ | with_reducible refine below_drewN ?_ _ | with_reducible refine Below.drew ?_ | with_reducible refine Below.alloc ?_ ?_ _ | with_reducible refine Below.setCell ?_ ?_ _ | omega | (focus (simp; omega)) | (focus (simp; done)))) hb8)); have HX8 := Lib.hid (StackRd.below HX7.out (Below.next (by repeat (first | with_reducible exact Below.refl _ _ | with_reducible refine below_drewN ?_ _ | with_reducible refine Below.drew ?_ | with_reducible refine Below.alloc ?_ ?_ _ | with_reducible refine Below.setCell ?_ ?_ _ | omega | (focus (simp; omega)) | (focus (simp; done)))) hb8)); have HD8 := Lib.hid (StackRd.below HD7.out (Below.next (by repeat (first | with_reducible exact Below.refl _ _ | with_reducible refine below_drewN ?_ _ | with_reducible refine Below.drew ?_ | with_reducible refine Below.alloc ?_ ?_ _ | with_reducible refine Below.setCell ?_ ?_ _ | omega | (focus (simp; omega)) | (focus (simp; done)))) hb8)); have hz8 := hb8.size; (try simp at hz8); clear hb8))
            | (go_at_call 36; (with_reducible refine (sameInts_v (.slice A7 v.length c7) (.slice A8 v.length c8) v v _ (SRd.below H78.out (by repeat (first | with_reducible exact Below.refl _ _ | with_reducible refine below_drewN ?_ _ | with_reducible refine Below.drew ?_ | with_reducible refine Below.alloc ?_ ?_ _ | with_reducible refine Below.setCell ?_ ?_ _ | omega | (focus (simp; omega)) | (focus (simp; done))))) (SRd.below H8.out (by repeat (first | with_reducible exact Below.refl _ _ | with_reducible refine below_drewN ?_ _ | with_reducible refine Below.drew ?_ | with_reducible refine Below.alloc ?_ ?_ _ | with_reducible refine Below.setCell ?_ ?_ _ | omega | (focus (simp; omega)) | (focus (simp; done))))) (by omega) (by omega)).mono ?_); go_must (rw [dec_reflK]; rintro e w9 ⟨rfl, q9, rfl⟩))
            | (go_at_call 37; (with_reducible refine (implPV_c _ _ _ _ x k (w8.drewN q9) (StackRd.below HX8.out (by repeat (first | with_reducible exact Below.refl _ _ | with_reducible refine below_drewN ?_ _ | with_reducible refine Below.drew ?_ | with_reducible refine Below.alloc ?_ ?_ _ | with_reducible refine Below.setCell ?_ ?_ _ | omega | (focus (simp; omega)) | (focus (simp; done))))) hxsz.out).mono ?_); go_must (rw [HXE.out]; rintro e w10 ⟨v10, rfl, o10, hb10⟩; obtain ⟨A10, c10, gg10, rfl, -, -⟩ := id o10; have H10 := Lib.hid (SOwn.rd o10); have LS10 := Loc.carryB LS8 (fun h => by ((repeat (first | with_reducible exact h | with_reducible refine Loc.drew ?_ | with_reducible refine Loc.drewN ?_ _ | with_reducible refine Loc.alloc ?_ _)); done)) hb10; obtain ⟨s0_10, s1_10, s2_10, s3_10, sf_10⟩ := LS10.four; have zS_10 := LS10.lt; have LX10 := Loc.carryB LX8 (fun h => by ((repeat (first | with_reducible exact h | with_reducible refine Loc.drew ?_ | with_reducible refine Loc.drewN ?_ _ | with_reducible refine Loc.alloc ?_ _)); done)) hb10; obtain ⟨r0_10, r1_10, r2_10, r3_10, rf_10⟩ := LX10.four; have zX_10 := LX10.lt; have LD10 := Loc.carryB LD8 (fun h => by ((repeat (first | with_reducible exact h | with_reducible refine Loc.drew ?_ | with_reducible refine Loc.drewN ?_ _ | with_reducible refine Loc.alloc ?_ _)); done)) hb10; obtain ⟨u0_10, u1_10, u2_10, u3_10, uf_10⟩ := LD10.four; have zD_10 := LD10.lt; have HB10 : Hid (Below w.heap.size w w10) := Lib.hid (Below.next (W := w) (by repeat (first | with_reducible exact HB8.out | with_reducible exact Below.refl _ _ | with_reducible refine below_drewN ?_ _ | with_reducible refine Below.drew ?_ | with_reducible refine Below.alloc ?_ ?_ _ | with_reducible refine Below.setCell ?_ ?_ _ | (with_reducible refine Below.next ?_ (by assumption)) | ((with_reducible refine Below.far' (by assumption) ?_ ?_ ?_); (focus (first | omega | (simp; omega) | (simp; done))); (focus (first | omega | (simp; omega) | (simp; done)))) | omega | (focus (simp; omega)) | (focus (simp; done)))) hb10); have HS10 := Lib.hid (StackRd.below HS8.out (Below.next (by repeat (first | with_reducible exact Below.refl _ _ | with_reducible refine below_drewN ?_ _ | with_reducible refine Below.drew ?_ | with_reducible refine Below.alloc ?_ ?_ _ | with_reducible refine Below.setCell ?_ ?_ _ | omega | (focus (simp; omega)) | (focus (simp; done)))) hb10)); have HX10 := Lib.hid (StackRd.below HX8.out (Below.next (by repeat (first | with_reducible exact Below.refl _ _ | with_reducible refine below_drewN ?_ _ | with_reducible refine Below.drew ?_ | with_reducible refine Below.alloc ?_ ?_ _ | with_reducible refine Below.setCell ?_ ?_ _ | omega | (focus (simp; omega)) | (focus (simp; done)))) hb10)); have HD10 := Lib.hid (StackRd.below HD8.out (Below.next (by repeat (first | with_reducible exact Below.refl _ _ | with_reducible refine below_drewN ?_ _ | with_reducible refine Below.drew ?_ | with_reducible refine Below.alloc ?_ ?_ _ | with_reducible refine Below.setCell ?_ ?_ _ | omega | (focus (simp; omega)) | (focus (simp; done)))) hb10)); have hz10 := hb10.size; (try simp at hz10); clear hb10))
            | (go_at_call 37; (with_reducible refine (implPV_c _ _ _ _ t k w10 (StackRd.below HS10.out (by repeat (first | with_reducible exact Below.refl _ _ | with_reducible refine below_drewN ?_ _ | with_reducible refine Below.drew ?_ | with_reducible refine Below.alloc ?_ ?_ _ | with_reducible refine Below.setCell ?_ ?_ _ | omega | (focus (simp; omega)) | (focus (simp; done))))) hszs.out).mono ?_); go_must (rw [← HV.out]; rintro e w11 ⟨v11, rfl, o11, hb11⟩; obtain ⟨A11, c11, gg11, rfl, -, -⟩ := id o11; have H11 := Lib.hid (SOwn.rd o11); have H1011 := Lib.hid (SRd.below H10.out (Below.next (by repeat (first | with_reducible exact Below.refl _ _ | with_reducible refine below_drewN ?_ _ | with_reducible refine Below.drew ?_ | with_reducible refine Below.alloc ?_ ?_ _ | with_reducible refine Below.setCell ?_ ?_ _ | omega | (focus (simp; omega)) | (focus (simp; done)))) hb11)); have LS11 := Loc.carryB LS10 (fun h => by ((repeat (first | with_reducible exact h | with_reducible refine Loc.drew ?_ | with_reducible refine Loc.drewN ?_ _ | with_reducible refine Loc.alloc ?_ _)); done)) hb11; obtain ⟨s0_11, s1_11, s2_11, s3_11, sf_11⟩ := LS11.four; have zS_11 := LS11.lt; have LX11 := Loc.carryB LX10 (fun h => by ((repeat (first | with_reducible exact h | with_reducible refine Loc.drew ?_ | with_reducible refine Loc.drewN ?_ _ | with_reducible refine Loc.alloc ?_ _)); done)) hb11; obtain ⟨r0_11, r1_11, r2_11, r3_11, rf_11⟩ := LX11.four; have zX_11 := LX11.lt; have LD11 := Loc.carryB LD10 (fun h => by ((repeat (first | with_reducible exact h | with_reducible refine Loc.drew ?_ | with_reducible refine Loc.drewN ?_ _ | with_reducible refine Loc.alloc ?_ _)); done)) hb11; obtain ⟨u0_11, u1_11, u2_11, u3_11, uf_11⟩ := LD11.four; have zD_11 := LD11.lt; have HB11 : Hid (Below w.heap.size w w11) := Lib.hid (Below.next (W := w) (by repeat (first | with_reducible exact HB10.out | with_reducible exact Below.refl _ _ | with_reducible refine below_drewN ?_ _ | with_reducible refine Below.drew ?_ | with_reducible refine Below.alloc ?_ ?_ _ | with_reducible refine Below.setCell ?_ ?_ _ | (with_reducible refine Below.next ?_ (by assumption)) | ((with_reducible refine Below.far' (by assumption) ?_ ?_ ?_); (focus (first | omega | (simp; omega) | (simp; done))); (focus (first | omega | (simp; omega) | (simp; done)))) | omega | (focus (simp; omega)) | (focus (simp; done)))) hb11); have HS11 := Lib.hid (StackRd.below HS10.out (Below.next (by repeat (first | with_reducible exact Below.refl _ _ | with_reducible refine below_drewN ?_ _ | with_reducible refine Below.drew ?_ | with_reducible refine Below.alloc ?_ ?_ _ | with_reducible refine Below.setCell ?_ ?_ _ | omega | (focus (simp; omega)) | (focus (simp; done)))) hb11)); have HX11 := Lib.hid (StackRd.below HX10.out (Below.next (by repeat (first | with_reducible exact Below.refl _ _ | with_reducible refine below_drewN ?_ _ | with_reducible refine Below.drew ?_ | with_reducible refine Below.alloc ?_ ?_ _ | with_reducible refine Below.setCell ?_ ?_ _ | omega | (focus (simp; omega)) | (focus (simp; done)))) hb11)); have HD11 := Lib.hid (StackRd.below HD10.out (Below.next (by repeat (first | with_reducible exact Below.refl _ _ | with_reducible refine below_drewN ?_ _ | with_reducible refine Below.drew ?_ | with_reducible refine Below.alloc ?_ ?_ _ | with_reducible refine Below.setCell ?_ ?_ _ | omega | (focus (simp; omega)) | (focus (simp; done)))) hb11)); have hz11 := hb11.size; (try simp at hz11); clear hb11))
            | (go_at_call 36; (with_reducible refine (sameInts_v (.slice A10 v.length c10) (.slice A11 v.length c11) v v _ (SRd.below H1011.out (by repeat (first | with_reducible exact Below.refl _ _ | with_reducible refine below_drewN ?_ _ | with_reducible refine Below.drew ?_ | with_reducible refine Below.alloc ?_ ?_ _ | with_reducible refine Below.setCell ?_ ?_ _ | omega | (focus (simp; omega)) | (focus (simp; done))))) (SRd.below H11.out (by repeat (first | with_reducible exact Below.refl _ _ | with_reducible refine below_drewN ?_ _ | with_reducible refine Below.drew ?_ | with_reducible refine Below.alloc ?_ ?_ _ | with_reducible refine Below.setCell ?_ ?_ _ | omega | (focus (simp; omega)) | (focus (simp; done))))) (by omega) (by omega)).mono ?_); go_must (rw [dec_reflK]; rintro e w12 ⟨rfl, q12, rfl⟩)))
          go_wp2
          go_roundw
          case rel => exact ⟨k + 1, by omega, by go_num, Loc.drewN LS11 _, Loc.drewN LX11 _, Loc.drewN LD11 _, below_drewN HB11.out _, StackRd.below HS11.out (by repeat (first | with_reducible exact Below.refl _ _ | with_reducible refine below_drewN ?_ _ | with_reducible refine Below.drew ?_ | with_reducible refine Below.alloc ?_ ?_ _ | with_reducible refine Below.setCell ?_ ?_ _ | omega | (focus (simp; omega)) | (focus (simp; done)))), StackRd.below HX11.out (by repeat (first | with_reducible exact Below.refl _ _ | with_reducible refine below_drewN ?_ _ | with_reducible refine Below.drew ?_ | with_reducible refine Below.alloc ?_ ?_ _ | with_reducible refine Below.setCell ?_ ?_ _ | omega | (focus (simp; omega)) | (focus (simp; done)))), StackRd.below HD11.out (by repeat (first | with_reducible exact Below.refl _ _ | with_reducible refine below_drewN ?_ _ | with_reducible refine Below.drew ?_ | with_reducible refine Below.alloc ?_ ?_ _ | with_reducible refine Below.setCell ?_ ?_ _ | omega | (focus (simp; omega)) | (focus (simp; done))))⟩
          case measure => simp [intOf]; omega
      · clear HDV HXV
        obtain ⟨u0, u1, u2, u3, uf⟩ := LD.four
        have HB6 := HBW
        have HX6 := HXR
        go_wp2
        go_region_held3 (fun w' => w'.cell? ⟨w2.heap.size, 0, none⟩ = some (.slice B0 x.dsk.length d0) ∧ w'.cell? ⟨w2.heap.size, 1, none⟩ = some (.slice B1 x.prt.length d1) ∧ w'.cell? ⟨w2.heap.size, 2, none⟩ = some (.slice B2 x.lns.length d2) ∧ w'.cell? ⟨w2.heap.size, 3, none⟩ = some (.int .i64 x.mst)) (first | (with_reducible assumption) | (refine ⟨?_, ?_, ?_, ?_⟩ <;> with_reducible assumption) | go_keep | (refine ⟨?_, ?_, ?_, ?_⟩ <;> (simp [go_sem, *]; done))) (first
          | (go_at_call 20; go_must ((with_reducible refine (implSync_c _ _ _ _ x _ (StackRd.below HX6.out (by repeat (first | with_reducible exact Below.refl _ _ | with_reducible refine below_drewN ?_ _ | with_reducible refine Below.drew ?_ | with_reducible refine Below.alloc ?_ ?_ _ | with_reducible refine Below.setCell ?_ ?_ _ | omega | (focus (simp; omega)) | (focus (simp; done))))) hxsz.out).mono ?_); rw [HSS.out]; rintro e w20 ⟨p0, p1, p2, p3, rfl, O20, hb20⟩; have LX20 := Loc.carryB LX (fun h => by ((repeat (first | with_reducible exact h | with_reducible refine Loc.drew ?_ | with_reducible refine Loc.drewN ?_ _ | with_reducible refine Loc.alloc ?_ _)); done)) hb20; obtain ⟨rr0, rr1, rr2, rr3, rrf⟩ := LX20.four; have H20 := Lib.hid (StackOwn.rd O20); have HB20 : Hid (Below w.heap.size w w20) := Lib.hid (Below.next (W := w) (by repeat (first | with_reducible exact HB6.out | with_reducible exact Below.refl _ _ | with_reducible refine below_drewN ?_ _ | with_reducible refine Below.drew ?_ | with_reducible refine Below.alloc ?_ ?_ _ | with_reducible refine Below.setCell ?_ ?_ _ | (with_reducible refine Below.next ?_ (by assumption)) | ((with_reducible refine Below.far' (by assumption) ?_ ?_ ?_); (focus (first | omega | (simp; omega) | (simp; done))); (focus (first | omega | (simp; omega) | (simp; done)))) | omega | (focus (simp; omega)) | (focus (simp; done)))) hb20); have HX20 := Lib.hid (StackRd.below HX6.out (Below.next (by repeat (first | with_reducible exact Below.refl _ _ | with_reducible refine below_drewN ?_ _ | with_reducible refine Below.drew ?_ | with_reducible refine Below.alloc ?_ ?_ _ | with_reducible refine Below.setCell ?_ ?_ _ | omega | (focus (simp; omega)) | (focus (simp; done)))) hb20)); have zX20 := LX20.lt; have hz20 := hb20.size; (try simp at hz20); clear O20 hb20))
          | (go_at_call 34; go_must ((with_reducible refine (sameStack_c _ _ _ _ _ _ _ _ x _ (StackRd.below H20.out (by repeat (first | with_reducible exact Below.refl _ _ | with_reducible refine below_drewN ?_ _ | with_reducible refine Below.drew ?_ | with_reducible refine Below.alloc ?_ ?_ _ | with_reducible refine Below.setCell ?_ ?_ _ | omega | (focus (simp; omega)) | (focus (simp; done))))) (StackRd.below HX20.out (by repeat (first | with_reducible exact Below.refl _ _ | with_reducible refine below_drewN ?_ _ | with_reducible refine Below.drew ?_ | with_reducible refine Below.alloc ?_ ?_ _ | with_reducible refine Below.setCell ?_ ?_ _ | omega | (focus (simp; omega)) | (focus (simp; done))))) hxsz.out).mono ?_); rintro e w21 ⟨rfl, hb21⟩; have LX21 := Loc.carryB LX20 (fun h => by ((repeat (first | with_reducible exact h | with_reducible refine Loc.drew ?_ | with_reducible refine Loc.drewN ?_ _ | with_reducible refine Loc.alloc ?_ _)); done)) hb21; obtain ⟨tt0, tt1, tt2, tt3, ttf⟩ := LX21.four; have HB21 : Hid (Below w.heap.size w w21) := Lib.hid (Below.next (W := w) (by repeat (first | with_reducible exact HB20.out | with_reducible exact Below.refl _ _ | with_reducible refine below_drewN ?_ _ | with_reducible refine Below.drew ?_ | with_reducible refine Below.alloc ?_ ?_ _ | with_reducible refine Below.setCell ?_ ?_ _ | (with_reducible refine Below.next ?_ (by assumption)) | ((with_reducible refine Below.far' (by assumption) ?_ ?_ ?_); (focus (first | omega | (simp; omega) | (simp; done))); (focus (first | omega | (simp; omega) | (simp; done)))) | omega | (focus (simp; omega)) | (focus (simp; done)))) hb21); clear hb21)))
        go_wp2
        go_ret
        exact ⟨rfl, HB21.out⟩
set_option maxRecDepth 100000 in
theorem lifted (os : Os) (started : os.Started) (H : Type) (enc : TypeId × Value → H) :
    ReturnsInHanded {} Try.checked os 10 .any (Rows.fnStackSyncSpec.pre6 enc Try.prog Try.f10 Rows.fnStackSyncRow.domain false) (Rows.fnStackSyncSpec.post enc Try.prog Try.f10 false true false false) := by
  refine returnsInHanded_of_change (C := Try.checked) own_knob started (by kernel_rfl) Try.func10
    (ChangeSpec.witness6 (enc := enc) (C := Try.checked) false ⟨#[], #[.slice none 0 0], []⟩ 8 (by kernel_rfl) (by kernel_rfl) (by kernel_rfl) (by kernel_rfl)) ?_
  intro W base args ds gs before hval0 hW hcnd _
  have hval : ∀ (j : Nat) t v, Try.f10.params[j]? = some t → args[j]? = some v → Value.okWide Try.prog W .any base t v := hval0
  have hW' := hW
  obtain ⟨p, q, hA0, hV, rfl, hfz, hnd⟩ := hW
  have hA : DataW.TrodAll enc Try.prog W 0 (fun _ => true) true Try.f10.params.toList args.toList ds p := hA0
  rw [Try.params10] at hA hval
  obtain ⟨v0, vs0, d0, ds0, p0, q0, hargs, rfl, rfl, h0, r0⟩ := trodAll_cons hA
  obtain ⟨rfl, rfl, rfl⟩ := trodAll_nil r0
  obtain rfl : args = #[v0] := by cases args; simp_all
  obtain ⟨rfl, rfl⟩ := trodVars_none hV
  have k0 := h0
  have lt0 : ∀ x ∈ p0, x.block < W.heap.size := by obtain ⟨m, hm⟩ := k0; exact DataW.trod_lt m _ _ _ hm
  obtain ⟨A0, c0, l0, rfl, hl0, hm0, rd0, by0⟩ := open_bytes Try.underlying46 Try.underlying5 (by kernel_rfl) (hval 0 46 v0 rfl rfl) h0
  clear hA0 hval0
  refine (walk A0 c0 l0 W hl0 hm0 rd0 by0).mono fun e W' ⟨he, bel⟩ => ?_
  subst he
  exact ⟨_, rfl, _, _, _, [], _, [], hW', trodAll_mk1 (shut_bool Try.underlying4 _), (trodAll_cons_mk (Below.trod laid_out (by kernel_rfl) (of_decide_eq_true (by kernel_rfl)) k0 bel lt0) trodAll_mk0), rfl, bel.frame _, fun h => by cases h⟩
theorem over : Rows.fnStackSyncRow.holds Try.pinned (OpenSpec.ofChange Rows.fnStackSyncSpec) :=
  OpenClaim.holds_of_wide 10 Try.f10 rfl rfl rfl rfl rfl rfl rfl ⟨rfl, rfl, rfl, rfl, rfl⟩ rfl rfl rfl rfl rfl (by kernel_rfl) Try.func10 (by kernel_rfl)
    (of_decide_eq_true (by kernel_rfl)) (by unfold Func.isWrapper; first | (rw [if_pos (by decide +kernel)]; kernel_rfl) | (rw [if_neg (by decide +kernel)]; exact ⟨rfl, rfl⟩))
    (fun os started H enc _ => lifted os started H enc)
theorem proved : Rows.FnStackSyncSaid := over
end LwKs
end Go.Proofs.Ytlhbjfjphckifaa
