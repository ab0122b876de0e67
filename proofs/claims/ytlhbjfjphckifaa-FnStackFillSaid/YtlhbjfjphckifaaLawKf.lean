/-
  FnStackFill: after writing a value to every sector of a partition the view has these values, after StackSync and a power failure as well. No condition.
-/
import Derived.Test.YtlhbjfjphckifaaBase
import Derived.Test.YtlhbjfjphckifaaNum
import Derived.Test.YtlhbjfjphckifaaInts
import Derived.Test.YtlhbjfjphckifaaApp
import Derived.Test.YtlhbjfjphckifaaIntsW
import Derived.Test.YtlhbjfjphckifaaLib
import Derived.Test.YtlhbjfjphckifaaSpares
import Derived.Test.YtlhbjfjphckifaaOwn
import Derived.Test.YtlhbjfjphckifaaPart
import Derived.Test.YtlhbjfjphckifaaLine
import Derived.Test.YtlhbjfjphckifaaStack
import Derived.Test.YtlhbjfjphckifaaStackM
import Derived.Test.YtlhbjfjphckifaaStackC
import Derived.Test.YtlhbjfjphckifaaStackF
import Derived.Test.YtlhbjfjphckifaaStackS
import Derived.Test.YtlhbjfjphckifaaStackP
import Derived.Test.YtlhbjfjphckifaaStackU
import Derived.Test.YtlhbjfjphckifaaStackU2
import Derived.Test.YtlhbjfjphckifaaStackR
import Derived.Test.YtlhbjfjphckifaaStackD
import Derived.Test.YtlhbjfjphckifaaStackW
import Derived.Test.YtlhbjfjphckifaaStackX
import Derived.Test.YtlhbjfjphckifaaStackCp
import Derived.Test.YtlhbjfjphckifaaStackS2
import Derived.Test.YtlhbjfjphckifaaStackK
import Derived.Test.YtlhbjfjphckifaaStackV
import Derived.Test.YtlhbjfjphckifaaStackQ
import Derived.Test.YtlhbjfjphckifaaCleanS
import Derived.Test.YtlhbjfjphckifaaSameSt
import Derived.Test.YtlhbjfjphckifaaDraw
import Derived.Test.YtlhbjfjphckifaaDrawK
import Derived.Test.YtlhbjfjphckifaaDrawD
import Derived.Test.YtlhbjfjphckifaaDrawSt
import Derived.Test.YtlhbjfjphckifaaDrawStk
import Derived.Test.YtlhbjfjphckifaaDrawStl
import Derived.Test.YtlhbjfjphckifaaOpen
import Derived.IntWalk
namespace Go.Proofs.Ytlhbjfjphckifaa
open Go.RowKit Go.ChangeShapes Go.WideShapes Go.ChangeAt Go.Deep Go.Joins
namespace LwKf
def wantL (k : Nat) : List Int := (List.range k).map fun i : Nat => 7 * (i : Int) + 1
theorem wantL_len (k : Nat) : (wantL k).length = k := by simp [wantL]
theorem wantL_succ (k : Nat) : wantL (k + 1) = wantL k ++ [7 * (k : Int) + 1] := by simp [wantL, List.range_succ]
structure Fill (t u : Stk) (kn k : Nat) : Prop where
  ok : stackB u = true
  cl : cleanB u.lns u.dsk = true
  prt : u.prt = t.prt
  see : partV u kn = wantL k ++ (partV t kn).drop k
theorem fill_zero {t : Stk} (h : stackB t = true) (hc : cleanB t.lns t.dsk = true) (kn : Nat) : Fill t t kn 0 := ⟨h, hc, rfl, by simp [wantL]⟩
theorem fill_next {t u : Stk} {kn k : Nat} (h : Fill t u kn k) (hst : stackB t = true) (hkn : kn < t.prt.length) (hk : k < (partV t kn).length) (hc : t.prt[kn].cnt ≤ 5) : Fill t (writeS u kn k (7 * (k : Int) + 1)) kn (k + 1) := by
  have hku : kn < u.prt.length := by rw [h.prt]; exact hkn
  have e1 : u.prt[kn] = t.prt[kn] := by simp only [h.prt]
  have hlt := partV_len hst hkn
  have hlu := partV_len h.ok hku
  have hp := place_of h.ok hku (a := (k : Int)) (by omega) (by rw [e1]; omega)
  have hb := prt_bd h.ok hku
  have hok : writeOk u kn k (7 * (k : Int) + 1) = true := by
    unfold writeOk
    rw [Bool.and_eq_true, decide_eq_true_eq, inB_true]
    exact ⟨by rw [hp]; omega, by omega, by omega⟩
  obtain ⟨a, b, _, d⟩ := write_view hok
  obtain ⟨d1, d2⟩ := d h.cl
  refine ⟨a, d1, by rw [b, h.prt], ?_⟩
  rw [d2 kn hku, if_pos rfl, h.see, wantL_succ]
  have e2 : (partV t kn).drop k = (partV t kn)[k] :: (partV t kn).drop (k + 1) := (List.getElem_cons_drop (h := hk)).symm
  have e3 : ((k : Int)).toNat = (wantL k).length := by rw [wantL_len]; simp
  rw [e3, List.set_append_right _ _ (Nat.le_refl _), Nat.sub_self, e2, List.set_cons_zero, List.append_assoc]
  rfl
theorem fill_all {t u : Stk} {kn k : Nat} (h : Fill t u kn k) (hk : (partV t kn).length ≤ k) : partV u kn = wantL k := by
  rw [h.see, List.drop_eq_nil_of_le hk, List.append_nil]
theorem fill_size {t u : Stk} {kn k : Nat} (h : Fill t u kn k) : sizeStack u ≤ 80 := by
  obtain ⟨h1, h2, h3⟩ := stack_true.1 h.ok
  have a := (diskB_true.1 h1).1
  have b := (parts_true.1 h2).1
  have c := cache_iff.1 h3
  have := c.len
  have := c.m1
  unfold sizeStack
  omega
set_option maxHeartbeats 8000000 in
theorem walk (A : Option Addr) (c : Nat) (l : List Int) (w : World) (hl : l.length ≤ c) (hm : c ≤ maxLen) (hr : Rd eByte w A l) (hb : ∀ x ∈ l, 0 ≤ x ∧ x ≤ 255) :
    Calls Try.prog 11 #[.slice A l.length c] w fun e w' => e = .returned (.bool true) ∧ Below w.heap.size w w' := by
  have HB := Lib.hid hb
  clear hb
  by_cases hsz : (1048576 : Int) < l.length
  · unfold maxLen at hm
    go_enter Try.func11, Try.ntmps11
    go_wp2
    go_ret
    exact ⟨rfl, (by repeat (first | with_reducible exact Below.refl _ _ | with_reducible assumption | with_reducible refine below_drewN ?_ _ | with_reducible refine Below.drew ?_ | with_reducible refine Below.alloc ?_ ?_ _ | with_reducible refine Below.setCell ?_ ?_ _ | (with_reducible refine Below.next ?_ (by assumption)) | omega | (focus (simp; omega)) | (focus (simp; done))))⟩
  go_enter Try.func11, Try.ntmps11
  go_wp2_with fail
  refine (drawStp_any A c l _ hl hm hr HB.out).mono ?_
  rintro e w1 ⟨y0, y1, y2, y3, t, n, rfl, ⟨n0, n1⟩, hown, hs60, hcnt, hb1⟩
  obtain ⟨A0, c0, A1, c1, A2, c2, e0, e1, e2, e3⟩ := id hown.rd.mst
  subst e0 e1 e2 e3
  have HCNT := Lib.hid hcnt
  have hz1 := hb1.size
  have HB1 := Lib.hid hb1
  have HO1 := Lib.hid hown
  have HS1 := Lib.hid (StackOwn.rd hown)
  have hszs : Hid (sizeStack t ≤ 1099511627776) := Lib.hid (by omega)
  have hs6 := hs60
  unfold sizeStack at hs6
  have LS := Loc.newAt w1 [.slice A0 t.dsk.length c0, .slice A1 t.prt.length c1, .slice A2 t.lns.length c2, .int .i64 t.mst] 35 (b := w1.heap.size) rfl
  clear hb1 hown hcnt hsz
  obtain ⟨v, hv⟩ : ∃ v, v = partV t n := ⟨_, rfl⟩
  have HV := Lib.hid hv
  have hvl : v.length ≤ 1000 := by have := partV_size t n; rw [← hv] at this; omega
  have hsome := fun h => partV_some (t := t) (p := n) h
  have HSOME := Lib.hid hsome
  clear hv hsome
  go_wp2_with fail
  refine (implPV_c _ _ _ _ t n _ (StackRd.below HS1.out (by repeat (first | with_reducible exact Below.refl _ _ | with_reducible refine below_drewN ?_ _ | with_reducible refine Below.drew ?_ | with_reducible refine Below.alloc ?_ ?_ _ | with_reducible refine Below.setCell ?_ ?_ _ | omega | (focus (simp; omega)) | (focus (simp; done))))) hszs.out).mono ?_
  rw [← HV.out]
  rintro e w2 ⟨u2, rfl, o2, hb2⟩
  obtain ⟨A2', c2', gg2, rfl, -, -⟩ := id o2
  have HB2 : Hid (Below w.heap.size w w2) := Lib.hid (Below.next (W := w) (by repeat (first | with_reducible exact HB1.out | with_reducible exact Below.refl _ _ | with_reducible refine below_drewN ?_ _ | with_reducible refine Below.drew ?_ | with_reducible refine Below.alloc ?_ ?_ _ | with_reducible refine Below.setCell ?_ ?_ _ | (with_reducible refine Below.next ?_ (by assumption)) | ((with_reducible refine Below.far' (by assumption) ?_ ?_ ?_); (focus (first | omega | (simp; omega) | (simp; done))); (focus (first | omega | (simp; omega) | (simp; done)))) | omega | (focus (simp; omega)) | (focus (simp; done)))) hb2)
  have HS2 := Lib.hid (StackRd.below HS1.out (Below.next (by repeat (first | with_reducible exact Below.refl _ _ | with_reducible refine below_drewN ?_ _ | with_reducible refine Below.drew ?_ | with_reducible refine Below.alloc ?_ ?_ _ | with_reducible refine Below.setCell ?_ ?_ _ | omega | (focus (simp; omega)) | (focus (simp; done)))) hb2))
  have hz2 := hb2.size
  (try simp at hz2)
  replace LS := Loc.carryB LS (fun h => by ((repeat (first | with_reducible exact h | with_reducible refine Loc.drew ?_ | with_reducible refine Loc.drewN ?_ _ | with_reducible refine Loc.alloc ?_ _)); done)) hb2
  have z_LS2 := LS.lt
  (try clear s0 s1 s2 s3 sf)
  obtain ⟨s0, s1, s2, s3, sf⟩ := LS.four
  have H2 := Lib.hid (SOwn.rd o2)
  have HO2 := Lib.hid (StackOwn.below HO1.out (Below.next (by repeat (first | with_reducible exact Below.refl _ _ | with_reducible refine below_drewN ?_ _ | with_reducible refine Below.drew ?_ | with_reducible refine Below.alloc ?_ ?_ _ | with_reducible refine Below.setCell ?_ ?_ _ | omega | (focus (simp; omega)) | (focus (simp; done)))) hb2))
  clear hb2 o2
  go_wp2_with fail
  refine (specPV_c _ _ _ _ t n _ (StackRd.below HS2.out (by repeat (first | with_reducible exact Below.refl _ _ | with_reducible refine below_drewN ?_ _ | with_reducible refine Below.drew ?_ | with_reducible refine Below.alloc ?_ ?_ _ | with_reducible refine Below.setCell ?_ ?_ _ | omega | (focus (simp; omega)) | (focus (simp; done))))) hszs.out).mono ?_
  rw [← HV.out]
  rintro e w3 ⟨u3, rfl, o3, hb3⟩
  obtain ⟨A3', c3', gg3, rfl, -, -⟩ := id o3
  have HB3 : Hid (Below w.heap.size w w3) := Lib.hid (Below.next (W := w) (by repeat (first | with_reducible exact HB2.out | with_reducible exact Below.refl _ _ | with_reducible refine below_drewN ?_ _ | with_reducible refine Below.drew ?_ | with_reducible refine Below.alloc ?_ ?_ _ | with_reducible refine Below.setCell ?_ ?_ _ | (with_reducible refine Below.next ?_ (by assumption)) | ((with_reducible refine Below.far' (by assumption) ?_ ?_ ?_); (focus (first | omega | (simp; omega) | (simp; done))); (focus (first | omega | (simp; omega) | (simp; done)))) | omega | (focus (simp; omega)) | (focus (simp; done)))) hb3)
  have HS3 := Lib.hid (StackRd.below HS2.out (Below.next (by repeat (first | with_reducible exact Below.refl _ _ | with_reducible refine below_drewN ?_ _ | with_reducible refine Below.drew ?_ | with_reducible refine Below.alloc ?_ ?_ _ | with_reducible refine Below.setCell ?_ ?_ _ | omega | (focus (simp; omega)) | (focus (simp; done)))) hb3))
  have hz3 := hb3.size
  (try simp at hz3)
  replace LS := Loc.carryB LS (fun h => by ((repeat (first | with_reducible exact h | with_reducible refine Loc.drew ?_ | with_reducible refine Loc.drewN ?_ _ | with_reducible refine Loc.alloc ?_ _)); done)) hb3
  have z_LS3 := LS.lt
  (try clear s0 s1 s2 s3 sf)
  obtain ⟨s0, s1, s2, s3, sf⟩ := LS.four
  have H3 := Lib.hid (SRd.below H2.out (Below.next (by repeat (first | with_reducible exact Below.refl _ _ | with_reducible refine below_drewN ?_ _ | with_reducible refine Below.drew ?_ | with_reducible refine Below.alloc ?_ ?_ _ | with_reducible refine Below.setCell ?_ ?_ _ | omega | (focus (simp; omega)) | (focus (simp; done)))) hb3))
  have H33 := Lib.hid (SOwn.rd o3)
  have HO3 := Lib.hid (StackOwn.below HO2.out (Below.next (by repeat (first | with_reducible exact Below.refl _ _ | with_reducible refine below_drewN ?_ _ | with_reducible refine Below.drew ?_ | with_reducible refine Below.alloc ?_ ?_ _ | with_reducible refine Below.setCell ?_ ?_ _ | omega | (focus (simp; omega)) | (focus (simp; done)))) hb3))
  clear hb3 o3
  go_wp2_with fail
  refine (sameInts_v (.slice A2' v.length c2') (.slice A3' v.length c3') v v _ (SRd.below H3.out (by repeat (first | with_reducible exact Below.refl _ _ | with_reducible refine below_drewN ?_ _ | with_reducible refine Below.drew ?_ | with_reducible refine Below.alloc ?_ ?_ _ | with_reducible refine Below.setCell ?_ ?_ _ | omega | (focus (simp; omega)) | (focus (simp; done))))) (SRd.below H33.out (by repeat (first | with_reducible exact Below.refl _ _ | with_reducible refine below_drewN ?_ _ | with_reducible refine Below.drew ?_ | with_reducible refine Below.alloc ?_ ?_ _ | with_reducible refine Below.setCell ?_ ?_ _ | omega | (focus (simp; omega)) | (focus (simp; done))))) (by omega) (by omega)).mono ?_
  rw [dec_reflK]
  rintro e w4 ⟨rfl, q4, rfl⟩
  clear H2 H3 H33 HO1 HO2 HS1 HS2 HB1 HB2
  by_cases h0 : v.length = 0
  · have h0' : ((v.length : Int) == 0) = true := by simp [h0]
    clear h0
    go_wp2_with (go_at_call 31; refine (alive_any _).mono ?_; rintro e w6 ⟨rfl, hb6⟩)
    go_ret
    exact ⟨rfl, Below.next (W := w) (below_drewN HB3.out _) hb6⟩
  · have h0' : ((v.length : Int) == 0) = false := by rw [beq_eq_false_iff_ne]; omega
    obtain ⟨hst, kn, rfl, hkn⟩ := HSOME.out (by rw [← HV.out]; omega)
    have HST := Lib.hid hst
    have HCV := Lib.hid (cache_iff.1 (stack_true.1 hst).2.2)
    have hvc := partV_len hst hkn
    rw [← HV.out] at hvc
    have hc5 := HCNT.out _ (List.getElem_mem hkn)
    have hv5 : v.length ≤ 5 := by omega
    have HC5 := Lib.hid hc5
    clear hst hvc hc5 h0
    go_wp2_with fail
    refine (clean_c _ _ t.lns t.mst t.dsk _ (SRd.below HS3.out.parts.2.2 (by repeat (first | with_reducible exact Below.refl _ _ | with_reducible refine below_drewN ?_ _ | with_reducible refine Below.drew ?_ | with_reducible refine Below.alloc ?_ ?_ _ | with_reducible refine Below.setCell ?_ ?_ _ | omega | (focus (simp; omega)) | (focus (simp; done))))) (SRd.below HS3.out.parts.1 (by repeat (first | with_reducible exact Below.refl _ _ | with_reducible refine below_drewN ?_ _ | with_reducible refine Below.drew ?_ | with_reducible refine Below.alloc ?_ ?_ _ | with_reducible refine Below.setCell ?_ ?_ _ | omega | (focus (simp; omega)) | (focus (simp; done))))) HCV.out).mono ?_
    rintro e w5 ⟨rfl, hb5⟩
    replace LS := Loc.carryB LS (fun h => (by repeat (first | with_reducible exact h | with_reducible refine Loc.drew ?_ | with_reducible refine Loc.drewN ?_ _ | with_reducible refine Loc.alloc ?_ _ | (with_reducible refine Loc.below ?_ (by assumption)) | ((with_reducible refine Loc.other' ?_ ?_ _); (focus (first | omega | (simp; omega) | (simp; done)))) | ((with_reducible refine Loc.far' (by assumption) ?_ ?_); (focus (first | omega | (simp; omega) | (simp; done))))))) hb5
    have HB5 : Hid (Below w.heap.size w w5) := Lib.hid (Below.next (W := w) (below_drewN HB3.out _) hb5)
    have HO5 : Hid (StackOwn w.heap.size w5 w1.heap.size [.slice A0 t.dsk.length c0, .slice A1 t.prt.length c1, .slice A2 t.lns.length c2, .int .i64 t.mst] t) := Lib.hid (StackOwn.below HO3.out (Below.next (by repeat (first | with_reducible exact Below.refl _ _ | with_reducible refine below_drewN ?_ _ | with_reducible refine Below.drew ?_ | with_reducible refine Below.alloc ?_ ?_ _ | with_reducible refine Below.setCell ?_ ?_ _ | omega | (focus (simp; omega)) | (focus (simp; done)))) hb5))
    have hz5 := hb5.size
    (try simp at hz5)
    have zS5 := LS.lt
    obtain ⟨cl, hcl⟩ : ∃ cl, cl = cleanB t.lns t.dsk := ⟨_, rfl⟩
    have HCL := Lib.hid hcl
    rw [← hcl]
    clear hcl hb5 s0 s1 s2 s3 sf HO3 HS3 HB3
    cases cl
    · go_wp2_with (go_at_call 31; refine (alive_any _).mono ?_; rintro e w6 ⟨rfl, hb6⟩)
      go_ret
      exact ⟨rfl, Below.next (W := w) HB5.out hb6⟩
    · have HF0 := Lib.hid (fill_zero HST.out HCL.out.symm kn)
      have hw6 : Hid (Row eInt (w5.alloc (.cells #[] 3)) w5.heap.size 3 (some ⟨w5.heap.size, 0, none⟩) 0 ([] : List Int)) := Lib.hid (Row.made0 rfl)
      have LS6 := Loc.alloc LS (.cells #[] 3)
      have HO6 := Lib.hid (StackOwn.alloc HO5.out (.cells #[] 3))
      have HB6 : Hid (Below w.heap.size w (w5.alloc (.cells #[] 3))) := Lib.hid (by repeat (first | with_reducible exact HB5.out | with_reducible exact Below.refl _ _ | with_reducible refine below_drewN ?_ _ | with_reducible refine Below.drew ?_ | with_reducible refine Below.alloc ?_ ?_ _ | with_reducible refine Below.setCell ?_ ?_ _ | (with_reducible refine Below.next ?_ (by assumption)) | ((with_reducible refine Below.far' (by assumption) ?_ ?_ ?_); (focus (first | omega | (simp; omega) | (simp; done))); (focus (first | omega | (simp; omega) | (simp; done)))) | omega | (focus (simp; omega)) | (focus (simp; done))))
      clear LS HO5 HB5
      go_wp2
      go_loopw [6, 7] (fun wt i wr => ∃ k : Nat, k ≤ v.length ∧ i = .int .i64 k ∧ Below w.heap.size w wr ∧ ∃ (u : Stk) (D0 D1 D2 : Option Addr) (g0 g1 g2 Bs Cs : Nat), Loc wr w1.heap.size [.slice D0 u.dsk.length g0, .slice D1 u.prt.length g1, .slice D2 u.lns.length g2, .int .i64 u.mst] ∧ StackOwn Bs wr Cs [.slice D0 u.dsk.length g0, .slice D1 u.prt.length g1, .slice D2 u.lns.length g2, .int .i64 u.mst] u ∧ Hid (Fill t u kn k) ∧ ∃ (wl : List Int) (Aw : Option Addr) (cw gw : Nat), wt = .slice Aw wl.length cw ∧ Hid (wl = wantL k) ∧ (wl.length ≤ k ∧ k ≤ wl.length) ∧ Row eInt wr gw 3 Aw cw wl ∧ (w1.heap.size < gw ∧ gw < wr.heap.size ∧ (gw < Bs ∨ Cs ≤ gw) ∧ Cs ≤ wr.heap.size)) (fun _ i _ => v.length - (intOf i).toNat)
      case atStart => exact ⟨0, Nat.zero_le _, rfl, HB6.out, t, A0, A1, A2, c0, c1, c2, w.heap.size, w1.heap.size, LS6, HO6.out, HF0, [], _, 0, w5.heap.size, rfl, Lib.hid rfl, ⟨by simp, by simp⟩, hw6.out, by omega, by simp, by omega, by simp; omega⟩
      case round =>
        clear LS6 HO6 HB6 hw6 HF0
        obtain ⟨k, hk, rfl, hbw, u, D0, D1, D2, g0, g1, g2, Bs, Cs, LS, hou, HF, wl, Aw, cw, gw, rfl, HW, ⟨hw0, hw1⟩, hrw, hgw1, hgw2, hgw3, hgw4⟩ := hrel
        obtain ⟨wa, hwa⟩ : ∃ x, x = wr := ⟨_, rfl⟩
        subst hwa
        have HB7 := Lib.hid hbw
        have HO7 := Lib.hid hou
        have HR7 := Lib.hid hrw
        have zS := LS.lt
        have hzw := hbw.size
        have hus := fill_size HF.out
        have husz : Hid (sizeStack u ≤ 1099511627776) := Lib.hid (by omega)
        have hus6 := hus
        unfold sizeStack at hus6
        obtain ⟨s0, s1, s2, s3, sf⟩ := LS.four
        clear hbw hou hrw
        by_cases hlt : k < v.length
        · have hFN := fill_next HF.out HST.out hkn (by rw [← HV.out]; exact hlt) HC5.out
          obtain ⟨u', hu'⟩ : ∃ u', u' = writeS u kn k (7 * (k : Int) + 1) := ⟨_, rfl⟩
          rw [← hu'] at hFN
          have HFN := Lib.hid hFN
          have HU := Lib.hid hu'
          have hi7 := IntWalk.i64_in (7 * (k : Int)) (by omega)
          have hi8 := IntWalk.i64_in (7 * (k : Int) + 1) (by omega)
          clear hFN hu'
          go_wp2_with fail
          refine (implWr_c _ _ _ _ u kn k (7 * (k : Int) + 1) _ (StackRd.below HO7.out.rd (by repeat (first | with_reducible exact Below.refl _ _ | with_reducible refine below_drewN ?_ _ | with_reducible refine Below.drew ?_ | with_reducible refine Below.alloc ?_ ?_ _ | with_reducible refine Below.setCell ?_ ?_ _ | omega | (focus (simp; omega)) | (focus (simp; done))))) husz.out).mono ?_
          rw [← HU.out]
          rintro e w8 ⟨q0, q1, q2, q3, rfl, O8, hb8⟩
          obtain ⟨E0, h0, E1, h1, E2, h2, f0, f1, f2, f3⟩ := id O8.rd.mst
          subst f0 f1 f2 f3
          have LS8 := Loc.carryB LS (fun h => by ((repeat (first | with_reducible exact h | with_reducible refine Loc.drew ?_ | with_reducible refine Loc.drewN ?_ _ | with_reducible refine Loc.alloc ?_ _)); done)) hb8
          have zS8 := LS8.lt
          have hz8 := hb8.size
          have HB8 : Hid (Below w.heap.size w w8) := Lib.hid (Below.next (W := w) (by repeat (first | with_reducible exact HB7.out | with_reducible exact Below.refl _ _ | with_reducible refine below_drewN ?_ _ | with_reducible refine Below.drew ?_ | with_reducible refine Below.alloc ?_ ?_ _ | with_reducible refine Below.setCell ?_ ?_ _ | (with_reducible refine Below.next ?_ (by assumption)) | ((with_reducible refine Below.far' (by assumption) ?_ ?_ ?_); (focus (first | omega | (simp; omega) | (simp; done))); (focus (first | omega | (simp; omega) | (simp; done)))) | omega | (focus (simp; omega)) | (focus (simp; done)))) hb8)
          have HR8 := Lib.hid (Row.below HR7.out hb8)
          have HO8 := Lib.hid O8
          clear hb8 O8 s0 s1 s2 s3 sf
          obtain ⟨s0, s1, s2, s3, sf⟩ := LS8.four
          obtain ⟨wb, hwb⟩ : ∃ wb, wb = (((w8.setCell ⟨w1.heap.size, 0, none⟩ (.slice E0 u'.dsk.length h0)).setCell ⟨w1.heap.size, 1, none⟩ (.slice E1 u'.prt.length h1)).setCell ⟨w1.heap.size, 2, none⟩ (.slice E2 u'.lns.length h2)).setCell ⟨w1.heap.size, 3, none⟩ (.int .i64 u'.mst) := ⟨_, rfl⟩
          have LSb : Loc wb w1.heap.size [.slice E0 u'.dsk.length h0, .slice E1 u'.prt.length h1, .slice E2 u'.lns.length h2, .int .i64 u'.mst] := by rw [hwb]; simpa using (((LS8.set 0 (.slice E0 u'.dsk.length h0)).set 1 (.slice E1 u'.prt.length h1)).set 2 (.slice E2 u'.lns.length h2)).set 3 (.int .i64 u'.mst)
          have HRb : Hid (Row eInt wb gw 3 Aw cw wl) := Lib.hid (by rw [hwb]; exact Row.other (Row.other (Row.other (Row.other HR8.out (by simp only; omega) _) (by simp only; omega) _) (by simp only; omega) _) (by simp only; omega) _)
          have HOb : Hid (StackOwn wa.heap.size wb w8.heap.size [.slice E0 u'.dsk.length h0, .slice E1 u'.prt.length h1, .slice E2 u'.lns.length h2, .int .i64 u'.mst] u') := Lib.hid (by rw [hwb]; exact (by repeat (first | with_reducible exact HO8.out | with_reducible refine StackOwn.drew ?_ | with_reducible refine StackOwn.drewN ?_ _ | with_reducible refine StackOwn.alloc ?_ _ | (with_reducible refine StackOwn.below ?_ (by assumption)) | ((with_reducible refine StackOwn.other ?_ ?_ _); rotate_left; (focus (first | omega | (simp; omega) | (simp; done)))))))
          have HBb : Hid (Below w.heap.size w wb) := Lib.hid (by rw [hwb]; exact (by repeat (first | with_reducible exact HB8.out | with_reducible exact Below.refl _ _ | with_reducible refine below_drewN ?_ _ | with_reducible refine Below.drew ?_ | with_reducible refine Below.alloc ?_ ?_ _ | with_reducible refine Below.setCell ?_ ?_ _ | (with_reducible refine Below.next ?_ (by assumption)) | ((with_reducible refine Below.far' (by assumption) ?_ ?_ ?_); (focus (first | omega | (simp; omega) | (simp; done))); (focus (first | omega | (simp; omega) | (simp; done)))) | omega | (focus (simp; omega)) | (focus (simp; done)))))
          have hzb : wb.heap.size = w8.heap.size := by rw [hwb]; simp
          have HWB := Lib.hid hwb
          have n1 : wl.length + [7 * (k : Int) + 1].length ≤ maxLen := by simp [maxLen]; omega
          have b1 : (wl.length + [7 * (k : Int) + 1].length) * 8 ≤ 140737488355328 := by simp; omega
          clear hwb LS8 HR8 HO8 HB8
          go_wp2_with (at_builtin; rw [← HWB.out]; go_must (refine wpList_append_row rfl _ _ rfl el_int rfl (Row.alloc HRb.out _) _ _ [7 * (k : Int) + 1] rfl (Rd.lit (by first | rfl | exact hzb) rfl) n1 b1 ?_; intro A9 c9 g9 w9 l9 hl9 hle1 hle2 row9 hg9 hgg9; have LS9 := Loc.carry LSb (fun h => by ((repeat (first | with_reducible exact h | with_reducible refine Loc.drew ?_ | with_reducible refine Loc.drewN ?_ _ | with_reducible refine Loc.alloc ?_ _)); done)) hg9 (by omega)))
          have hz9 := hg9.size
          simp at hz9 hgg9 hle1 hle2
          have HO9 : Hid (StackOwn wa.heap.size w9 w8.heap.size [.slice E0 u'.dsk.length h0, .slice E1 u'.prt.length h1, .slice E2 u'.lns.length h2, .int .i64 u'.mst] u') := Lib.hid (StackOwn.gin (StackOwn.alloc HOb.out _) (GIn.of_grown hg9 (Nat.le_refl _) (Nat.lt_succ_self _)) (.inr (by omega)))
          have HB9 : Hid (Below w.heap.size w w9) := Lib.hid (Below.grown1 (by repeat (first | with_reducible exact HBb.out | with_reducible exact Below.refl _ _ | with_reducible refine below_drewN ?_ _ | with_reducible refine Below.drew ?_ | with_reducible refine Below.alloc ?_ ?_ _ | with_reducible refine Below.setCell ?_ ?_ _ | (with_reducible refine Below.next ?_ (by assumption)) | ((with_reducible refine Below.far' (by assumption) ?_ ?_ ?_); (focus (first | omega | (simp; omega) | (simp; done))); (focus (first | omega | (simp; omega) | (simp; done)))) | omega | (focus (simp; omega)) | (focus (simp; done)))) hg9 (by simp; omega) (by omega))
          have hg9l := row9.lt (by omega)
          clear s0 s1 s2 s3 sf
          go_wp2
          go_roundw
          case rel => exact ⟨k + 1, by omega, by go_num, HB9.out, u', E0, E1, E2, h0, h1, h2, wa.heap.size, w8.heap.size, LS9, HO9.out, HFN, l9, A9, c9, g9, rfl, Lib.hid (by rw [hl9.out, HW.out, wantL_succ]), ⟨by omega, by omega⟩, row9, by omega, hg9l, by omega, by omega⟩
          case measure => simp [intOf]; omega
        · have HVU : Hid (partV u (kn : Int) = wl) := Lib.hid (by rw [HW.out]; exact fill_all HF.out (by rw [← HV.out]; omega))
          obtain ⟨y, hy⟩ : ∃ y, y = syncS u := ⟨_, rfl⟩
          obtain ⟨z, hzz⟩ : ∃ z, z = crashS y := ⟨_, rfl⟩
          have HY := Lib.hid hy
          have HZ := Lib.hid hzz
          have hys := syncS_size u
          have hzs := crashS_size y
          rw [← hy] at hys
          rw [← hzz] at hzs
          have hysz : Hid (sizeStack y ≤ 1099511627776) := Lib.hid (by omega)
          have hzsz : Hid (sizeStack z ≤ 1099511627776) := Lib.hid (by omega)
          have HZV : Hid (partV z (kn : Int) = wl) := Lib.hid (by rw [hzz, hy, syncCrash_view HF.out.ok HF.out.cl, HVU.out])
          have HWR : Hid (SRd eInt wa (.slice Aw wl.length cw) wl) := Lib.hid (SOwn.rd (SOwn.of_fresh HR7.out (Nat.le_refl gw)))
          have HS7 := Lib.hid HO7.out.rd
          clear hy hzz HO7
          go_wp2_with fail
          refine (implPV_c _ _ _ _ u kn _ (StackRd.below HS7.out (by repeat (first | with_reducible exact Below.refl _ _ | with_reducible refine below_drewN ?_ _ | with_reducible refine Below.drew ?_ | with_reducible refine Below.alloc ?_ ?_ _ | with_reducible refine Below.setCell ?_ ?_ _ | omega | (focus (simp; omega)) | (focus (simp; done))))) husz.out).mono ?_
          rw [HVU.out]
          rintro e w8 ⟨u8, rfl, o8, hb8⟩
          obtain ⟨A8, c8, gg8, rfl, -, -⟩ := id o8
          have H8 := Lib.hid (SOwn.rd o8)
          have HW8 := Lib.hid (SRd.below HWR.out (Below.next (by repeat (first | with_reducible exact Below.refl _ _ | with_reducible refine below_drewN ?_ _ | with_reducible refine Below.drew ?_ | with_reducible refine Below.alloc ?_ ?_ _ | with_reducible refine Below.setCell ?_ ?_ _ | omega | (focus (simp; omega)) | (focus (simp; done)))) hb8))
          clear o8
          have HB8 : Hid (Below w.heap.size w w8) := Lib.hid (Below.next (W := w) (by repeat (first | with_reducible exact HB7.out | with_reducible exact Below.refl _ _ | with_reducible refine below_drewN ?_ _ | with_reducible refine Below.drew ?_ | with_reducible refine Below.alloc ?_ ?_ _ | with_reducible refine Below.setCell ?_ ?_ _ | (with_reducible refine Below.next ?_ (by assumption)) | ((with_reducible refine Below.far' (by assumption) ?_ ?_ ?_); (focus (first | omega | (simp; omega) | (simp; done))); (focus (first | omega | (simp; omega) | (simp; done)))) | omega | (focus (simp; omega)) | (focus (simp; done)))) hb8)
          have HS8 := Lib.hid (StackRd.below HS7.out (Below.next (by repeat (first | with_reducible exact Below.refl _ _ | with_reducible refine below_drewN ?_ _ | with_reducible refine Below.drew ?_ | with_reducible refine Below.alloc ?_ ?_ _ | with_reducible refine Below.setCell ?_ ?_ _ | omega | (focus (simp; omega)) | (focus (simp; done)))) hb8))
          have hz8 := hb8.size
          (try simp at hz8)
          replace LS := Loc.carryB LS (fun h => by ((repeat (first | with_reducible exact h | with_reducible refine Loc.drew ?_ | with_reducible refine Loc.drewN ?_ _ | with_reducible refine Loc.alloc ?_ _)); done)) hb8
          have z_LS8 := LS.lt
          (try clear s0 s1 s2 s3 sf)
          obtain ⟨s0, s1, s2, s3, sf⟩ := LS.four
          clear hb8
          go_wp2_with fail
          refine (sameInts_v _ _ wl wl _ (SRd.below H8.out (by repeat (first | with_reducible exact Below.refl _ _ | with_reducible refine below_drewN ?_ _ | with_reducible refine Below.drew ?_ | with_reducible refine Below.alloc ?_ ?_ _ | with_reducible refine Below.setCell ?_ ?_ _ | omega | (focus (simp; omega)) | (focus (simp; done))))) (SRd.below HW8.out (by repeat (first | with_reducible exact Below.refl _ _ | with_reducible refine below_drewN ?_ _ | with_reducible refine Below.drew ?_ | with_reducible refine Below.alloc ?_ ?_ _ | with_reducible refine Below.setCell ?_ ?_ _ | omega | (focus (simp; omega)) | (focus (simp; done))))) (by omega) (by omega)).mono ?_
          rw [dec_reflK]
          rintro e w9 ⟨rfl, q9, rfl⟩
          go_wp2_with fail
          refine (implSync_c _ _ _ _ u _ (StackRd.below HS8.out (by repeat (first | with_reducible exact Below.refl _ _ | with_reducible refine below_drewN ?_ _ | with_reducible refine Below.drew ?_ | with_reducible refine Below.alloc ?_ ?_ _ | with_reducible refine Below.setCell ?_ ?_ _ | omega | (focus (simp; omega)) | (focus (simp; done))))) husz.out).mono ?_
          rw [← HY.out]
          rintro e w10 ⟨y0, y1, y2, y3, rfl, O10, hb10⟩
          obtain ⟨E0, h0, E1, h1, E2, h2, f0, f1, f2, f3⟩ := id O10.rd.mst
          subst f0 f1 f2 f3
          have HY10 := Lib.hid (StackOwn.rd O10)
          have HW10 := Lib.hid (SRd.below HW8.out (Below.next (by repeat (first | with_reducible exact Below.refl _ _ | with_reducible refine below_drewN ?_ _ | with_reducible refine Below.drew ?_ | with_reducible refine Below.alloc ?_ ?_ _ | with_reducible refine Below.setCell ?_ ?_ _ | omega | (focus (simp; omega)) | (focus (simp; done)))) hb10))
          have HB10 : Hid (Below w.heap.size w w10) := Lib.hid (Below.next (W := w) (below_drewN HB8.out _) hb10)
          clear hb10 O10 s0 s1 s2 s3 sf
          go_wp2_with fail
          refine (implCrash_c _ _ _ _ y _ (StackRd.below HY10.out (by repeat (first | with_reducible exact Below.refl _ _ | with_reducible refine below_drewN ?_ _ | with_reducible refine Below.drew ?_ | with_reducible refine Below.alloc ?_ ?_ _ | with_reducible refine Below.setCell ?_ ?_ _ | omega | (focus (simp; omega)) | (focus (simp; done))))) hysz.out).mono ?_
          rw [← HZ.out]
          rintro e w11 ⟨z0, z1, z2, z3, rfl, O11, hb11⟩
          have HZ11 := Lib.hid (StackOwn.rd O11)
          have HW11 := Lib.hid (SRd.below HW10.out (Below.next (by repeat (first | with_reducible exact Below.refl _ _ | with_reducible refine below_drewN ?_ _ | with_reducible refine Below.drew ?_ | with_reducible refine Below.alloc ?_ ?_ _ | with_reducible refine Below.setCell ?_ ?_ _ | omega | (focus (simp; omega)) | (focus (simp; done)))) hb11))
          have HB11 : Hid (Below w.heap.size w w11) := Lib.hid (Below.next (W := w) (by repeat (first | with_reducible exact HB10.out | with_reducible exact Below.refl _ _ | with_reducible refine below_drewN ?_ _ | with_reducible refine Below.drew ?_ | with_reducible refine Below.alloc ?_ ?_ _ | with_reducible refine Below.setCell ?_ ?_ _ | (with_reducible refine Below.next ?_ (by assumption)) | ((with_reducible refine Below.far' (by assumption) ?_ ?_ ?_); (focus (first | omega | (simp; omega) | (simp; done))); (focus (first | omega | (simp; omega) | (simp; done)))) | omega | (focus (simp; omega)) | (focus (simp; done)))) hb11)
          clear hb11 O11
          go_wp2_with fail
          refine (implPV_c _ _ _ _ z kn _ (StackRd.below HZ11.out (by repeat (first | with_reducible exact Below.refl _ _ | with_reducible refine below_drewN ?_ _ | with_reducible refine Below.drew ?_ | with_reducible refine Below.alloc ?_ ?_ _ | with_reducible refine Below.setCell ?_ ?_ _ | omega | (focus (simp; omega)) | (focus (simp; done))))) hzsz.out).mono ?_
          rw [HZV.out]
          rintro e w12 ⟨u12, rfl, o12, hb12⟩
          have H12 := Lib.hid (SOwn.rd o12)
          have HW12 := Lib.hid (SRd.below HW11.out (Below.next (by repeat (first | with_reducible exact Below.refl _ _ | with_reducible refine below_drewN ?_ _ | with_reducible refine Below.drew ?_ | with_reducible refine Below.alloc ?_ ?_ _ | with_reducible refine Below.setCell ?_ ?_ _ | omega | (focus (simp; omega)) | (focus (simp; done)))) hb12))
          have HB12 : Hid (Below w.heap.size w w12) := Lib.hid (Below.next (W := w) (by repeat (first | with_reducible exact HB11.out | with_reducible exact Below.refl _ _ | with_reducible refine below_drewN ?_ _ | with_reducible refine Below.drew ?_ | with_reducible refine Below.alloc ?_ ?_ _ | with_reducible refine Below.setCell ?_ ?_ _ | (with_reducible refine Below.next ?_ (by assumption)) | ((with_reducible refine Below.far' (by assumption) ?_ ?_ ?_); (focus (first | omega | (simp; omega) | (simp; done))); (focus (first | omega | (simp; omega) | (simp; done)))) | omega | (focus (simp; omega)) | (focus (simp; done)))) hb12)
          clear hb12 o12
          go_wp2_with fail
          refine (sameInts_v _ _ wl wl _ (SRd.below H12.out (by repeat (first | with_reducible exact Below.refl _ _ | with_reducible refine below_drewN ?_ _ | with_reducible refine Below.drew ?_ | with_reducible refine Below.alloc ?_ ?_ _ | with_reducible refine Below.setCell ?_ ?_ _ | omega | (focus (simp; omega)) | (focus (simp; done))))) (SRd.below HW12.out (by repeat (first | with_reducible exact Below.refl _ _ | with_reducible refine below_drewN ?_ _ | with_reducible refine Below.drew ?_ | with_reducible refine Below.alloc ?_ ?_ _ | with_reducible refine Below.setCell ?_ ?_ _ | omega | (focus (simp; omega)) | (focus (simp; done))))) (by omega) (by omega)).mono ?_
          rw [dec_reflK]
          rintro e w13 ⟨rfl, q13, rfl⟩
          go_wp2
          go_ret
          exact ⟨rfl, below_drewN HB12.out _⟩
set_option maxRecDepth 100000 in
theorem lifted (os : Os) (started : os.Started) (H : Type) (enc : TypeId × Value → H) :
    ReturnsInHanded {} Try.checked os 11 .any (Rows.fnStackFillSpec.pre6 enc Try.prog Try.f11 Rows.fnStackFillRow.domain false) (Rows.fnStackFillSpec.post enc Try.prog Try.f11 false true false false) := by
  refine returnsInHanded_of_change (C := Try.checked) own_knob started (by kernel_rfl) Try.func11
    (ChangeSpec.witness6 (enc := enc) (C := Try.checked) false ⟨#[], #[.slice none 0 0], []⟩ 8 (by kernel_rfl) (by kernel_rfl) (by kernel_rfl) (by kernel_rfl)) ?_
  intro W base args ds gs before hval0 hW hcnd _
  have hval : ∀ (j : Nat) t v, Try.f11.params[j]? = some t → args[j]? = some v → Value.okWide Try.prog W .any base t v := hval0
  have hW' := hW
  obtain ⟨p, q, hA0, hV, rfl, hfz, hnd⟩ := hW
  have hA : DataW.TrodAll enc Try.prog W 0 (fun _ => true) true Try.f11.params.toList args.toList ds p := hA0
  rw [Try.params11] at hA hval
  obtain ⟨v0, vs0, d0, ds0, p0, q0, hargs, rfl, rfl, h0, r0⟩ := trodAll_cons hA
  obtain ⟨rfl, rfl, rfl⟩ := trodAll_nil r0
  obtain rfl : args = #[v0] := by cases args; simp_all
  obtain ⟨rfl, rfl⟩ := trodVars_none hV
  have k0 := h0
  have lt0 : ∀ x ∈ p0, x.block < W.heap.size := by obtain ⟨m, hm⟩ := k0; exact DataW.trod_lt m _ _ _ hm
  obtain ⟨A0, c0, l0, rfl, hl0, hm0, rd0, by0⟩ := open_bytes Try.underlying46 Try.underlying5 (by kernel_rfl) (hval 0 46 v0 rfl rfl) h0
  clear hA0 hval0
  refine (walk A0 c0 l0 W hl0 hm0 rd0 by0).mono fun e W' ⟨he, bel⟩ => ?_
  subst he
  exact ⟨_, rfl, _, _, _, [], _, [], hW', trodAll_mk1 (shut_bool Try.underlying4 _), (trodAll_cons_mk (Below.trod laid_out (by kernel_rfl) (of_decide_eq_true (by kernel_rfl)) k0 bel lt0) trodAll_mk0), rfl, bel.frame _, fun h => by cases h⟩
theorem over : Rows.fnStackFillRow.holds Try.pinned (OpenSpec.ofChange Rows.fnStackFillSpec) :=
  OpenClaim.holds_of_wide 11 Try.f11 rfl rfl rfl rfl rfl rfl rfl ⟨rfl, rfl, rfl, rfl, rfl⟩ rfl rfl rfl rfl rfl (by kernel_rfl) Try.func11 (by kernel_rfl)
    (of_decide_eq_true (by kernel_rfl)) (by unfold Func.isWrapper; first | (rw [if_pos (by decide +kernel)]; kernel_rfl) | (rw [if_neg (by decide +kernel)]; exact ⟨rfl, rfl⟩))
    (fun os started H enc _ => lifted os started H enc)
theorem proved : Rows.FnStackFillSaid := over
end LwKf
end Go.Proofs.Ytlhbjfjphckifaa
