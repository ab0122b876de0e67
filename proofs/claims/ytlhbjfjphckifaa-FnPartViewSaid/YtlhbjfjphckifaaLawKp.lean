/-
  FnPartView: every value of a view is that of StackRead; the view has the size of the partition. No condition.
-/
import Derived.Test.YtlhbjfjphckifaaBase
import Derived.Test.YtlhbjfjphckifaaNum
import Derived.Test.YtlhbjfjphckifaaInts
import Derived.Test.YtlhbjfjphckifaaApp
import Derived.Test.YtlhbjfjphckifaaIntsW
import Derived.Test.YtlhbjfjphckifaaLib
import Derived.Test.YtlhbjfjphckifaaSpares
import Derived.Test.YtlhbjfjphckifaaOwn
import Derived.Test.YtlhbjfjphckifaaPart
import Derived.Test.YtlhbjfjphckifaaLine
import Derived.Test.YtlhbjfjphckifaaStack
import Derived.Test.YtlhbjfjphckifaaStackM
import Derived.Test.YtlhbjfjphckifaaStackC
import Derived.Test.YtlhbjfjphckifaaStackF
import Derived.Test.YtlhbjfjphckifaaStackS
import Derived.Test.YtlhbjfjphckifaaStackP
import Derived.Test.YtlhbjfjphckifaaStackU
import Derived.Test.YtlhbjfjphckifaaStackU2
import Derived.Test.YtlhbjfjphckifaaStackR
import Derived.Test.YtlhbjfjphckifaaStackD
import Derived.Test.YtlhbjfjphckifaaStackW
import Derived.Test.YtlhbjfjphckifaaStackX
import Derived.Test.YtlhbjfjphckifaaStackCp
import Derived.Test.YtlhbjfjphckifaaStackS2
import Derived.Test.YtlhbjfjphckifaaStackV
import Derived.Test.YtlhbjfjphckifaaStackQ
import Derived.Test.YtlhbjfjphckifaaSameSt
import Derived.Test.YtlhbjfjphckifaaDraw
import Derived.Test.YtlhbjfjphckifaaDrawK
import Derived.Test.YtlhbjfjphckifaaDrawD
import Derived.Test.YtlhbjfjphckifaaDrawSt
import Derived.Test.YtlhbjfjphckifaaDrawStk
import Derived.Test.YtlhbjfjphckifaaDrawStl
import Derived.Test.YtlhbjfjphckifaaOpen
import Derived.IntWalk
namespace Go.Proofs.Ytlhbjfjphckifaa
open Go.RowKit Go.ChangeShapes Go.WideShapes Go.ChangeAt Go.Deep Go.Joins
namespace LwKp
set_option maxHeartbeats 8000000 in
theorem walk (A : Option Addr) (c : Nat) (l : List Int) (w : World) (hl : l.length ≤ c) (hm : c ≤ maxLen) (hr : Rd eByte w A l) (hb : ∀ x ∈ l, 0 ≤ x ∧ x ≤ 255) :
    Calls Try.prog 9 #[.slice A l.length c] w fun e w' => e = .returned (.bool true) ∧ Below w.heap.size w w' := by
  have HB := Lib.hid hb
  clear hb
  by_cases hsz : (1048576 : Int) < l.length
  · unfold maxLen at hm
    go_enter Try.func9, Try.ntmps9
    go_wp2
    go_ret
    exact ⟨rfl, (by repeat (first | with_reducible exact Below.refl _ _ | with_reducible assumption | with_reducible refine below_drewN ?_ _ | with_reducible refine Below.drew ?_ | with_reducible refine Below.alloc ?_ ?_ _ | with_reducible refine Below.setCell ?_ ?_ _ | (with_reducible refine Below.next ?_ (by assumption)) | omega | (focus (simp; omega)) | (focus (simp; done))))⟩
  go_enter Try.func9, Try.ntmps9
  go_wp2_with fail
  refine (drawStp_any A c l _ hl hm hr HB.out).mono ?_
  rintro e w1 ⟨y0, y1, y2, y3, t, n, rfl, ⟨n0, n1⟩, hown, hs60, hcnt, hb1⟩
  obtain ⟨A0, c0, A1, c1, A2, c2, e0, e1, e2, e3⟩ := id hown.rd.mst
  subst e0 e1 e2 e3
  have HCNT := Lib.hid hcnt
  have hz1 := hb1.size
  have HB1 := Lib.hid hb1
  have HS1 := Lib.hid (StackOwn.rd hown)
  have hszs : Hid (sizeStack t ≤ 1099511627776) := Lib.hid (by omega)
  have hs6 := hs60
  unfold sizeStack at hs6
  have LS := Loc.newAt w1 [.slice A0 t.dsk.length c0, .slice A1 t.prt.length c1, .slice A2 t.lns.length c2, .int .i64 t.mst] 35 (b := w1.heap.size) rfl
  clear hb1 hown hcnt hsz
  obtain ⟨v, hv⟩ : ∃ v, v = partV t n := ⟨_, rfl⟩
  have HV := Lib.hid hv
  have hvl : v.length ≤ 1000 := by have := partV_size t n; rw [← hv] at this; omega
  have hsome := fun h => partV_some (t := t) (p := n) h
  have hread := fun (h : stackB t = true) (k : Nat) (hk : k < t.prt.length) (i : Nat) (hi : i < (partV t k).length) => view_read h hk hi
  have HSOME := Lib.hid hsome
  clear hv hsome hread
  go_wp2_with fail
  refine (implPV_c _ _ _ _ t n _ (StackRd.below HS1.out (by repeat (first | with_reducible exact Below.refl _ _ | with_reducible refine below_drewN ?_ _ | with_reducible refine Below.drew ?_ | with_reducible refine Below.alloc ?_ ?_ _ | with_reducible refine Below.setCell ?_ ?_ _ | omega | (focus (simp; omega)) | (focus (simp; done))))) hszs.out).mono ?_
  rw [← HV.out]
  rintro e w2 ⟨u2, rfl, o2, hb2⟩
  obtain ⟨A2', c2', gg2, rfl, -, -⟩ := id o2
  have HB2 : Hid (Below w.heap.size w w2) := Lib.hid (Below.next (W := w) (by repeat (first | with_reducible exact HB1.out | with_reducible exact Below.refl _ _ | with_reducible refine below_drewN ?_ _ | with_reducible refine Below.drew ?_ | with_reducible refine Below.alloc ?_ ?_ _ | with_reducible refine Below.setCell ?_ ?_ _ | (with_reducible refine Below.next ?_ (by assumption)) | ((with_reducible refine Below.far' (by assumption) ?_ ?_ ?_); (focus (first | omega | (simp; omega) | (simp; done))); (focus (first | omega | (simp; omega) | (simp; done)))) | omega | (focus (simp; omega)) | (focus (simp; done)))) hb2)
  have HS2 := Lib.hid (StackRd.below HS1.out (Below.next (by repeat (first | with_reducible exact Below.refl _ _ | with_reducible refine below_drewN ?_ _ | with_reducible refine Below.drew ?_ | with_reducible refine Below.alloc ?_ ?_ _ | with_reducible refine Below.setCell ?_ ?_ _ | omega | (focus (simp; omega)) | (focus (simp; done)))) hb2))
  have hz2 := hb2.size
  (try simp at hz2)
  replace LS := Loc.carryB LS (fun h => by ((repeat (first | with_reducible exact h | with_reducible refine Loc.drew ?_ | with_reducible refine Loc.drewN ?_ _ | with_reducible refine Loc.alloc ?_ _)); done)) hb2
  have z_LS2 := LS.lt
  (try clear s0 s1 s2 s3 sf)
  obtain ⟨s0, s1, s2, s3, sf⟩ := LS.four
  have H2 := Lib.hid (SOwn.rd o2)
  clear hb2 o2
  go_wp2_with fail
  refine (specPV_c _ _ _ _ t n _ (StackRd.below HS2.out (by repeat (first | with_reducible exact Below.refl _ _ | with_reducible refine below_drewN ?_ _ | with_reducible refine Below.drew ?_ | with_reducible refine Below.alloc ?_ ?_ _ | with_reducible refine Below.setCell ?_ ?_ _ | omega | (focus (simp; omega)) | (focus (simp; done))))) hszs.out).mono ?_
  rw [← HV.out]
  rintro e w3 ⟨u3, rfl, o3, hb3⟩
  obtain ⟨A3', c3', gg3, rfl, -, -⟩ := id o3
  have HB3 : Hid (Below w.heap.size w w3) := Lib.hid (Below.next (W := w) (by repeat (first | with_reducible exact HB2.out | with_reducible exact Below.refl _ _ | with_reducible refine below_drewN ?_ _ | with_reducible refine Below.drew ?_ | with_reducible refine Below.alloc ?_ ?_ _ | with_reducible refine Below.setCell ?_ ?_ _ | (with_reducible refine Below.next ?_ (by assumption)) | ((with_reducible refine Below.far' (by assumption) ?_ ?_ ?_); (focus (first | omega | (simp; omega) | (simp; done))); (focus (first | omega | (simp; omega) | (simp; done)))) | omega | (focus (simp; omega)) | (focus (simp; done)))) hb3)
  have HS3 := Lib.hid (StackRd.below HS2.out (Below.next (by repeat (first | with_reducible exact Below.refl _ _ | with_reducible refine below_drewN ?_ _ | with_reducible refine Below.drew ?_ | with_reducible refine Below.alloc ?_ ?_ _ | with_reducible refine Below.setCell ?_ ?_ _ | omega | (focus (simp; omega)) | (focus (simp; done)))) hb3))
  have hz3 := hb3.size
  (try simp at hz3)
  replace LS := Loc.carryB LS (fun h => by ((repeat (first | with_reducible exact h | with_reducible refine Loc.drew ?_ | with_reducible refine Loc.drewN ?_ _ | with_reducible refine Loc.alloc ?_ _)); done)) hb3
  have z_LS3 := LS.lt
  (try clear s0 s1 s2 s3 sf)
  obtain ⟨s0, s1, s2, s3, sf⟩ := LS.four
  have H3 := Lib.hid (SRd.below H2.out (Below.next (by repeat (first | with_reducible exact Below.refl _ _ | with_reducible refine below_drewN ?_ _ | with_reducible refine Below.drew ?_ | with_reducible refine Below.alloc ?_ ?_ _ | with_reducible refine Below.setCell ?_ ?_ _ | omega | (focus (simp; omega)) | (focus (simp; done)))) hb3))
  have H33 := Lib.hid (SOwn.rd o3)
  clear hb3 o3
  go_wp2_with fail
  refine (sameInts_v (.slice A2' v.length c2') (.slice A3' v.length c3') v v _ (SRd.below H3.out (by repeat (first | with_reducible exact Below.refl _ _ | with_reducible refine below_drewN ?_ _ | with_reducible refine Below.drew ?_ | with_reducible refine Below.alloc ?_ ?_ _ | with_reducible refine Below.setCell ?_ ?_ _ | omega | (focus (simp; omega)) | (focus (simp; done))))) (SRd.below H33.out (by repeat (first | with_reducible exact Below.refl _ _ | with_reducible refine below_drewN ?_ _ | with_reducible refine Below.drew ?_ | with_reducible refine Below.alloc ?_ ?_ _ | with_reducible refine Below.setCell ?_ ?_ _ | omega | (focus (simp; omega)) | (focus (simp; done))))) (by omega) (by omega)).mono ?_
  rw [dec_reflK]
  rintro e w4 ⟨rfl, q4, rfl⟩
  have LS4 := Loc.drewN LS q4
  have HB4 : Hid (Below w.heap.size w (w3.drewN q4)) := Lib.hid (below_drewN HB3.out _)
  have HS4 : Hid (StackRd (w3.drewN q4) [.slice A0 t.dsk.length c0, .slice A1 t.prt.length c1, .slice A2 t.lns.length c2, .int .i64 t.mst] t) := Lib.hid (StackRd.below HS3.out (by repeat (first | with_reducible exact Below.refl _ _ | with_reducible refine below_drewN ?_ _ | with_reducible refine Below.drew ?_ | with_reducible refine Below.alloc ?_ ?_ _ | with_reducible refine Below.setCell ?_ ?_ _ | omega | (focus (simp; omega)) | (focus (simp; done)))))
  have H4 : Hid (SRd eInt (w3.drewN q4) (.slice A2' v.length c2') v) := Lib.hid (SRd.below H3.out (by repeat (first | with_reducible exact Below.refl _ _ | with_reducible refine below_drewN ?_ _ | with_reducible refine Below.drew ?_ | with_reducible refine Below.alloc ?_ ?_ _ | with_reducible refine Below.setCell ?_ ?_ _ | omega | (focus (simp; omega)) | (focus (simp; done)))))
  clear s0 s1 s2 s3 sf
  go_wp2
  go_loopw [6] (fun i wr => ∃ k : Nat, k ≤ v.length ∧ i = .int .i64 k ∧ Loc wr w1.heap.size [.slice A0 t.dsk.length c0, .slice A1 t.prt.length c1, .slice A2 t.lns.length c2, .int .i64 t.mst] ∧ Below w.heap.size w wr ∧ StackRd wr [.slice A0 t.dsk.length c0, .slice A1 t.prt.length c1, .slice A2 t.lns.length c2, .int .i64 t.mst] t ∧ SRd eInt wr (.slice A2' v.length c2') v) (fun i _ => v.length - (intOf i).toNat)
  case atStart => exact ⟨0, Nat.zero_le _, rfl, LS4, HB4.out, HS4.out, H4.out⟩
  case round =>
    clear LS4 HB4 HS4 H4 LS HB1 HB2 HB3 HS1 HS2 HS3 H2 H3 H33
    obtain ⟨k, hk, rfl, LS, hbw, hsr, hvr⟩ := hrel
    obtain ⟨wa, hwa⟩ : ∃ x, x = wr := ⟨_, rfl⟩
    subst hwa
    have HB5 := Lib.hid hbw
    have HS5 := Lib.hid hsr
    have H5 := Lib.hid hvr
    have zS := LS.lt
    obtain ⟨s0, s1, s2, s3, sf⟩ := LS.four
    clear hbw hsr hvr
    by_cases hlt : k < v.length
    · obtain ⟨hst, kn, rfl, hkn⟩ := HSOME.out (by rw [← HV.out]; omega)
      have hrd : readV t kn k = v[k]'hlt := by
        have h1 : k < (partV t kn).length := by rw [← HV.out]; exact hlt
        rw [(view_read hst hkn h1).1]
        simp only [HV.out]
      have HRD := Lib.hid hrd
      clear hst hrd
      go_wp2_with fail
      refine (implRd_c _ _ _ _ t kn k _ (StackRd.below HS5.out (by repeat (first | with_reducible exact Below.refl _ _ | with_reducible refine below_drewN ?_ _ | with_reducible refine Below.drew ?_ | with_reducible refine Below.alloc ?_ ?_ _ | with_reducible refine Below.setCell ?_ ?_ _ | omega | (focus (simp; omega)) | (focus (simp; done))))) hszs.out).mono ?_
      rw [HRD.out]
      rintro e w6 ⟨p0, p1, p2, p3, rfl, o6, hb6⟩
      obtain ⟨P0, e0, P1, e1, P2, e2, f0, f1, f2, f3⟩ := id o6.rd.mst
      subst f0 f1 f2 f3
      have HB6 : Hid (Below w.heap.size w w6) := Lib.hid (Below.next (W := w) (by repeat (first | with_reducible exact HB5.out | with_reducible exact Below.refl _ _ | with_reducible refine below_drewN ?_ _ | with_reducible refine Below.drew ?_ | with_reducible refine Below.alloc ?_ ?_ _ | with_reducible refine Below.setCell ?_ ?_ _ | (with_reducible refine Below.next ?_ (by assumption)) | ((with_reducible refine Below.far' (by assumption) ?_ ?_ ?_); (focus (first | omega | (simp; omega) | (simp; done))); (focus (first | omega | (simp; omega) | (simp; done)))) | omega | (focus (simp; omega)) | (focus (simp; done)))) hb6)
      have HS6 := Lib.hid (StackRd.below HS5.out (Below.next (by repeat (first | with_reducible exact Below.refl _ _ | with_reducible refine below_drewN ?_ _ | with_reducible refine Below.drew ?_ | with_reducible refine Below.alloc ?_ ?_ _ | with_reducible refine Below.setCell ?_ ?_ _ | omega | (focus (simp; omega)) | (focus (simp; done)))) hb6))
      have hz6 := hb6.size
      (try simp at hz6)
      replace LS := Loc.carryB LS (fun h => by ((repeat (first | with_reducible exact h | with_reducible refine Loc.drew ?_ | with_reducible refine Loc.drewN ?_ _ | with_reducible refine Loc.alloc ?_ _)); done)) hb6
      have z_LS6 := LS.lt
      (try clear s0 s1 s2 s3 sf)
      obtain ⟨s0, s1, s2, s3, sf⟩ := LS.four
      have H6 := Lib.hid (SRd.below H5.out (Below.next (by repeat (first | with_reducible exact Below.refl _ _ | with_reducible refine below_drewN ?_ _ | with_reducible refine Below.drew ?_ | with_reducible refine Below.alloc ?_ ?_ _ | with_reducible refine Below.setCell ?_ ?_ _ | omega | (focus (simp; omega)) | (focus (simp; done)))) hb6))
      clear hb6 o6
      obtain ⟨vv, hvv⟩ : ∃ vv, vv = v[k]'hlt := ⟨_, rfl⟩
      rw [← hvv]
      have hcell : ∃ b off, A2' = some ⟨b, off, none⟩ ∧ b < w6.heap.size ∧ w6.cell? ⟨b, off + k, none⟩ = some (.int .i64 vv) := by
        obtain ⟨A', c', he, hr', _⟩ := H6.out
        cases he
        obtain ⟨b, off, h1, h2, h3⟩ := Rd.int hr' hlt
        exact ⟨b, off, h1, h2, by rw [h3, hvv]⟩
      obtain ⟨b, off, rfl, hbl, hcc⟩ := hcell
      clear hvv
      go_wp2
      go_roundw
      case rel => exact ⟨k + 1, by omega, by go_num, (by repeat (first | with_reducible exact LS | with_reducible refine Loc.drew ?_ | with_reducible refine Loc.drewN ?_ _ | with_reducible refine Loc.alloc ?_ _ | (with_reducible refine Loc.below ?_ (by assumption)) | ((with_reducible refine Loc.other' ?_ ?_ _); (focus (first | omega | (simp; omega) | (simp; done)))) | ((with_reducible refine Loc.far' (by assumption) ?_ ?_); (focus (first | omega | (simp; omega) | (simp; done)))))), (by repeat (first | with_reducible exact HB6.out | with_reducible exact Below.refl _ _ | with_reducible refine below_drewN ?_ _ | with_reducible refine Below.drew ?_ | with_reducible refine Below.alloc ?_ ?_ _ | with_reducible refine Below.setCell ?_ ?_ _ | (with_reducible refine Below.next ?_ (by assumption)) | ((with_reducible refine Below.far' (by assumption) ?_ ?_ ?_); (focus (first | omega | (simp; omega) | (simp; done))); (focus (first | omega | (simp; omega) | (simp; done)))) | omega | (focus (simp; omega)) | (focus (simp; done)))), StackRd.below HS6.out (by repeat (first | with_reducible exact Below.refl _ _ | with_reducible refine below_drewN ?_ _ | with_reducible refine Below.drew ?_ | with_reducible refine Below.alloc ?_ ?_ _ | with_reducible refine Below.setCell ?_ ?_ _ | omega | (focus (simp; omega)) | (focus (simp; done)))), SRd.below H6.out (by repeat (first | with_reducible exact Below.refl _ _ | with_reducible refine below_drewN ?_ _ | with_reducible refine Below.drew ?_ | with_reducible refine Below.alloc ?_ ?_ _ | with_reducible refine Below.setCell ?_ ?_ _ | omega | (focus (simp; omega)) | (focus (simp; done))))⟩
      case measure => simp [intOf]; omega
    · by_cases h0 : v.length = 0
      · have h0' : ((v.length : Int) == 0) = true := by simp [h0]
        clear h0
        go_wp2_with (go_at_call 31; refine (alive_any _).mono ?_; rintro e w6 ⟨rfl, hb6⟩)
        go_ret
        exact ⟨rfl, Below.next (W := w) HB5.out hb6⟩
      · have h0' : ((v.length : Int) == 0) = false := by rw [beq_eq_false_iff_ne]; omega
        obtain ⟨hst, kn, rfl, hkn⟩ := HSOME.out (by rw [← HV.out]; omega)
        have hcnt := partV_len hst hkn
        rw [← HV.out] at hcnt
        obtain ⟨b, off, hAd, hbl, hc1, hc2⟩ := HS5.out.prow.1.rPartS hkn
        subst hAd
        rw [← hcnt] at hc2
        clear hst hcnt
        go_wp2_with (go_at_call 31; refine (alive_any _).mono ?_; rintro e w6 ⟨rfl, hb6⟩)
        go_ret
        exact ⟨rfl, Below.next (W := w) HB5.out hb6⟩
set_option maxRecDepth 100000 in
theorem lifted (os : Os) (started : os.Started) (H : Type) (enc : TypeId × Value → H) :
    ReturnsInHanded {} Try.checked os 9 .any (Rows.fnPartViewSpec.pre6 enc Try.prog Try.f9 Rows.fnPartViewRow.domain false) (Rows.fnPartViewSpec.post enc Try.prog Try.f9 false true false false) := by
  refine returnsInHanded_of_change (C := Try.checked) own_knob started (by kernel_rfl) Try.func9
    (ChangeSpec.witness6 (enc := enc) (C := Try.checked) false ⟨#[], #[.slice none 0 0], []⟩ 8 (by kernel_rfl) (by kernel_rfl) (by kernel_rfl) (by kernel_rfl)) ?_
  intro W base args ds gs before hval0 hW hcnd _
  have hval : ∀ (j : Nat) t v, Try.f9.params[j]? = some t → args[j]? = some v → Value.okWide Try.prog W .any base t v := hval0
  have hW' := hW
  obtain ⟨p, q, hA0, hV, rfl, hfz, hnd⟩ := hW
  have hA : DataW.TrodAll enc Try.prog W 0 (fun _ => true) true Try.f9.params.toList args.toList ds p := hA0
  rw [Try.params9] at hA hval
  obtain ⟨v0, vs0, d0, ds0, p0, q0, hargs, rfl, rfl, h0, r0⟩ := trodAll_cons hA
  obtain ⟨rfl, rfl, rfl⟩ := trodAll_nil r0
  obtain rfl : args = #[v0] := by cases args; simp_all
  obtain ⟨rfl, rfl⟩ := trodVars_none hV
  have k0 := h0
  have lt0 : ∀ x ∈ p0, x.block < W.heap.size := by obtain ⟨m, hm⟩ := k0; exact DataW.trod_lt m _ _ _ hm
  obtain ⟨A0, c0, l0, rfl, hl0, hm0, rd0, by0⟩ := open_bytes Try.underlying46 Try.underlying5 (by kernel_rfl) (hval 0 46 v0 rfl rfl) h0
  clear hA0 hval0
  refine (walk A0 c0 l0 W hl0 hm0 rd0 by0).mono fun e W' ⟨he, bel⟩ => ?_
  subst he
  exact ⟨_, rfl, _, _, _, [], _, [], hW', trodAll_mk1 (shut_bool Try.underlying4 _), (trodAll_cons_mk (Below.trod laid_out (by kernel_rfl) (of_decide_eq_true (by kernel_rfl)) k0 bel lt0) trodAll_mk0), rfl, bel.frame _, fun h => by cases h⟩
theorem over : Rows.fnPartViewRow.holds Try.pinned (OpenSpec.ofChange Rows.fnPartViewSpec) :=
  OpenClaim.holds_of_wide 9 Try.f9 rfl rfl rfl rfl rfl rfl rfl ⟨rfl, rfl, rfl, rfl, rfl⟩ rfl rfl rfl rfl rfl (by kernel_rfl) Try.func9 (by kernel_rfl)
    (of_decide_eq_true (by kernel_rfl)) (by unfold Func.isWrapper; first | (rw [if_pos (by decide +kernel)]; kernel_rfl) | (rw [if_neg (by decide +kernel)]; exact ⟨rfl, rfl⟩))
    (fun os started H enc _ => lifted os started H enc)
theorem proved : Rows.FnPartViewSaid := over
end LwKp
end Go.Proofs.Ytlhbjfjphckifaa
