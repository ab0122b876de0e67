/-
  FnSendOn: commands are distributed. No condition.
-/
import Derived.Test.YtplmfcbikcjccaaBase
import Derived.Test.YtplmfcbikcjccaaNum
import Derived.Test.YtplmfcbikcjccaaInts
import Derived.Test.YtplmfcbikcjccaaApp
import Derived.Test.YtplmfcbikcjccaaIntsW
import Derived.Test.YtplmfcbikcjccaaLib
import Derived.Test.YtplmfcbikcjccaaPathM
import Derived.Test.YtplmfcbikcjccaaPathP
import Derived.Test.YtplmfcbikcjccaaPath
import Derived.Test.YtplmfcbikcjccaaPathC
import Derived.Test.YtplmfcbikcjccaaDraw
import Derived.Test.YtplmfcbikcjccaaDrawP
import Derived.Test.YtplmfcbikcjccaaDrawPs
import Derived.Test.YtplmfcbikcjccaaOpen
import Derived.IntWalk
namespace Go.Proofs.Ytplmfcbikcjccaa
open Go.RowKit Go.ChangeShapes Go.WideShapes Go.ChangeAt Go.Deep Go.Joins
namespace LwPs
set_option maxHeartbeats 8000000 in
theorem walk (A : Option Addr) (c : Nat) (l : List Int) (w : World) (hl : l.length ≤ c) (hm : c ≤ maxLen) (hr : Rd eByte w A l) (hb : ∀ x ∈ l, 0 ≤ x ∧ x ≤ 255) :
    Calls Try.prog 10 #[.slice A l.length c] w fun e w' => e = .returned (.bool true) ∧ Below w.heap.size w w' := by
  have HB := Lib.hid hb
  clear hb
  by_cases hsz : (1048576 : Int) < l.length
  · unfold maxLen at hm
    go_enter Try.func10, Try.ntmps10
    go_wp2
    go_ret
    exact ⟨rfl, (by repeat (first | with_reducible exact Below.refl _ _ | with_reducible assumption | with_reducible refine below_drewN ?_ _ | with_reducible refine Below.drew ?_ | with_reducible refine Below.alloc ?_ ?_ _ | with_reducible refine Below.setCell ?_ ?_ _ | (with_reducible refine Below.next ?_ (by assumption)) | omega | (focus (simp; omega)) | (focus (simp; done))))⟩
  · go_enter Try.func10, Try.ntmps10
    go_wp2_with fail
    refine (drawPs_any A c l _ hl hm hr HB.out).mono ?_
    rintro e w1 ⟨A1, c1, g1, d, n, rfl, hg1, row1, hd, hn0, hn1, hb1⟩
    have hz1 := hb1.size
    have hd7 : (d.length : Int) ≤ 7 := by omega
    have HROW1 := Lib.hid row1
    have HNIL := Lib.hid row1.nilc
    cases hv : pathsB d
    · have HV := Lib.hid hv
      have HS := Lib.hid (sendB_no1 (n := n) hv)
      clear hv
      go_wp2_with fail
      refine (implSend_any A1 c1 d (n) _ HROW1.out.rd (by omega) HNIL.out).mono ?_
      rw [HS.out]
      rintro e w2 ⟨A2, c2, g2, rfl, hg2, row2, hb2, hn2⟩
      replace row2 : Row ePath w2 g2 33 A2 c2 ([] : List Pth) := row2
      have HROW12 := Lib.hid (HROW1.out.below hb2)
      have HROW2 := Lib.hid row2
      have HN2 := Lib.hid hn2
      clear row2 hn2
      go_wp2_with fail
      refine (specSend_any A1 c1 d (n) _ HROW12.out.rd (by omega)).mono ?_
      rw [HS.out]
      rintro e w3 ⟨A3, c3, g3, rfl, hg3, row3, hb3, -⟩
      replace row3 : Row ePath w3 g3 33 A3 c3 ([] : List Pth) := row3
      have HROW13 := Lib.hid (HROW12.out.below hb3)
      have HROW23 := Lib.hid (HROW2.out.below hb3)
      go_wp2_with fail
      refine (samePaths_any A2 A3 c2 c3 ([] : List Pth) ([] : List Pth) _ HROW23.out.rd row3.rd (by simp) (by simp)).mono ?_
      rw [dec_refl]
      rintro e w4 ⟨rfl, hq4⟩
      have hb4 : Below w3.heap.size w3 w4 := by obtain ⟨q, rfl⟩ := hq4; exact below_drewN (Below.refl _ _) q
      have HROW14 := Lib.hid (HROW13.out.below hb4)
      have HROW24 := Lib.hid (HROW23.out.below hb4)
      have HB4 : Hid (Below w.heap.size w w4) := Lib.hid (Below.next (Below.next (Below.next (W := w) hb1 hb2) hb3) hb4)
      clear hb1 hb2 hb3 hb4 hq4 row1 row3 HROW1 HROW12 HROW2 HROW13 HROW23
      go_wp2_with (first
        | (go_at_call 13; refine (specPaths_any A1 c1 d _ HROW14.out.rd (by omega)).mono ?_; rw [HV.out]; rintro e w' ⟨rfl, rfl⟩)
        | (go_at_call 20; refine (alive_any _).mono ?_; rintro e w6 ⟨rfl, hb6⟩))
      go_ret
      exact ⟨rfl, (by repeat (first | with_reducible exact HB4.out | with_reducible exact Below.refl _ _ | with_reducible refine below_drewN ?_ _ | with_reducible refine Below.drew ?_ | with_reducible refine Below.alloc ?_ ?_ _ | with_reducible refine Below.setCell ?_ ?_ _ | (with_reducible refine Below.next ?_ (by assumption)) | ((with_reducible refine Below.far' (by assumption) ?_ ?_ ?_); (focus (first | omega | (simp; omega) | (simp; done))); (focus (first | omega | (simp; omega) | (simp; done)))) | omega | (focus (simp; omega)) | (focus (simp; done))))⟩
    · have HV := Lib.hid hv
      cases hi : inB n 0 500
      · have HS := Lib.hid (sendB_no2 (l := d) hi)
        rcases inB_false.1 hi with hlt | hlt
        all_goals
          clear hv hi
          go_wp2_with fail
          refine (implSend_any A1 c1 d (n) _ HROW1.out.rd (by omega) HNIL.out).mono ?_
          rw [HS.out]
          rintro e w2 ⟨A2, c2, g2, rfl, hg2, row2, hb2, hn2⟩
          replace row2 : Row ePath w2 g2 33 A2 c2 ([] : List Pth) := row2
          have HROW12 := Lib.hid (HROW1.out.below hb2)
          have HROW2 := Lib.hid row2
          have HN2 := Lib.hid hn2
          clear row2 hn2
          go_wp2_with fail
          refine (specSend_any A1 c1 d (n) _ HROW12.out.rd (by omega)).mono ?_
          rw [HS.out]
          rintro e w3 ⟨A3, c3, g3, rfl, hg3, row3, hb3, -⟩
          replace row3 : Row ePath w3 g3 33 A3 c3 ([] : List Pth) := row3
          have HROW13 := Lib.hid (HROW12.out.below hb3)
          have HROW23 := Lib.hid (HROW2.out.below hb3)
          go_wp2_with fail
          refine (samePaths_any A2 A3 c2 c3 ([] : List Pth) ([] : List Pth) _ HROW23.out.rd row3.rd (by simp) (by simp)).mono ?_
          rw [dec_refl]
          rintro e w4 ⟨rfl, hq4⟩
          have hb4 : Below w3.heap.size w3 w4 := by obtain ⟨q, rfl⟩ := hq4; exact below_drewN (Below.refl _ _) q
          have HROW14 := Lib.hid (HROW13.out.below hb4)
          have HROW24 := Lib.hid (HROW23.out.below hb4)
          have HB4 : Hid (Below w.heap.size w w4) := Lib.hid (Below.next (Below.next (Below.next (W := w) hb1 hb2) hb3) hb4)
          clear hb1 hb2 hb3 hb4 hq4 row1 row3 HROW1 HROW12 HROW2 HROW13 HROW23
          go_wp2_with (first
            | (go_at_call 13; refine (specPaths_any A1 c1 d _ HROW14.out.rd (by omega)).mono ?_; rw [HV.out]; rintro e w' ⟨rfl, rfl⟩)
            | (go_at_call 20; refine (alive_any _).mono ?_; rintro e w6 ⟨rfl, hb6⟩))
          go_ret
          exact ⟨rfl, (by repeat (first | with_reducible exact HB4.out | with_reducible exact Below.refl _ _ | with_reducible refine below_drewN ?_ _ | with_reducible refine Below.drew ?_ | with_reducible refine Below.alloc ?_ ?_ _ | with_reducible refine Below.setCell ?_ ?_ _ | (with_reducible refine Below.next ?_ (by assumption)) | ((with_reducible refine Below.far' (by assumption) ?_ ?_ ?_); (focus (first | omega | (simp; omega) | (simp; done))); (focus (first | omega | (simp; omega) | (simp; done)))) | omega | (focus (simp; omega)) | (focus (simp; done))))⟩
      · obtain ⟨n0, n5⟩ := inB_true.1 hi
        obtain ⟨m, rfl⟩ := Int.eq_ofNat_of_zero_le n0
        have HS := Lib.hid (sendB_yes (n := m) hv (by omega))
        have hsl := sendTo_length d m
        have hlost := sendTo_lost d m
        have HSUM := Lib.hid (sendTo_diff d m)
        have HBD := Lib.hid (diffTo_bd (sendTo d m).1 d (sendTo_ok hv m) hv)
        have HNX := Lib.hid (diffTo_next (sendTo d m).1 d)
        have HOK := Lib.hid (sendTo_ok hv m)
        have HLOST := Lib.hid (send_lost m hv)
        obtain ⟨hh, hhe⟩ : ∃ hh : Nat, hh = m / 3 := ⟨_, rfl⟩
        have HHS := Lib.hid (sendB_yes (n := hh) hv (by omega))
        have hhl := sendTo_length d hh
        have hhlost := sendTo_lost d hh
        have HPT := Lib.hid (send_parts m hh (by omega) hv (by omega))
        have HH : Hid ((m : Int) / 3 = (hh : Int)) := Lib.hid (by omega)
        have HHL : hh ≤ m := by omega
        obtain ⟨s, hs⟩ : ∃ s, s = sendTo d m := ⟨_, rfl⟩
        rw [← hs] at HS hsl hlost HSUM HBD HNX HOK HLOST HPT
        clear hs
        obtain ⟨out, lost⟩ := s
        simp only at HS hsl hlost HSUM HBD HNX HOK HLOST HPT
        obtain ⟨t, ht⟩ : ∃ t, t = sendTo d hh := ⟨_, rfl⟩
        rw [← ht] at HHS hhl hhlost HPT
        clear ht
        obtain ⟨ao, ax⟩ := t
        simp only at HHS hhl hhlost HPT
        obtain ⟨lost0, lost1⟩ := hlost
        obtain ⟨ax0, ax1⟩ := hhlost
        have HSL := Lib.hid hsl
        have hsl7 : (out.length : Int) ≤ 7 := by omega
        have hslo : (d.length : Int) ≤ out.length ∧ (out.length : Int) ≤ d.length := by omega
        have hall7 : (ao.length : Int) ≤ 7 := by omega
        clear hv hi hhe hsl hhl
        go_wp2_with fail
        refine (implSend_any A1 c1 d ((m : Int)) _ HROW1.out.rd (by omega) HNIL.out).mono ?_
        rw [HS.out]
        rintro e w2 ⟨A2, c2, g2, rfl, hg2, row2, hb2, hn2⟩
        replace row2 : Row ePath w2 g2 33 A2 c2 out := row2
        have HROW12 := Lib.hid (HROW1.out.below hb2)
        have HROW2 := Lib.hid row2
        have HN2 := Lib.hid hn2
        clear row2 hn2
        go_wp2_with fail
        refine (specSend_any A1 c1 d ((m : Int)) _ HROW12.out.rd (by omega)).mono ?_
        rw [HS.out]
        rintro e w3 ⟨A3, c3, g3, rfl, hg3, row3, hb3, -⟩
        replace row3 : Row ePath w3 g3 33 A3 c3 out := row3
        have HROW13 := Lib.hid (HROW12.out.below hb3)
        have HROW23 := Lib.hid (HROW2.out.below hb3)
        go_wp2_with fail
        refine (samePaths_any A2 A3 c2 c3 out out _ HROW23.out.rd row3.rd (by omega) (by omega)).mono ?_
        rw [dec_refl]
        rintro e w4 ⟨rfl, hq4⟩
        have hb4 : Below w3.heap.size w3 w4 := by obtain ⟨q, rfl⟩ := hq4; exact below_drewN (Below.refl _ _) q
        have HROW14 := Lib.hid (HROW13.out.below hb4)
        have HROW24 := Lib.hid (HROW23.out.below hb4)
        have HB4 : Hid (Below w.heap.size w w4) := Lib.hid (Below.next (Below.next (Below.next (W := w) hb1 hb2) hb3) hb4)
        clear hb1 hb2 hb3 hb4 hq4 row1 row3 HROW1 HROW12 HROW2 HROW13 HROW23
        go_wp2_with (go_at_call 13; refine (specPaths_any A1 c1 d _ HROW14.out.rd (by omega)).mono ?_; rw [HV.out]; rintro e w' ⟨rfl, rfl⟩)
        go_loopw [9, 10] (fun s i wr => ∃ k : Nat, k ≤ out.length ∧ i = .int .i64 k ∧ s = .int .i64 (diffTo out d k) ∧ ∃ q, wr = w4.drewN q) (fun _ i _ => out.length - (intOf i).toNat)
        case atStart => exact ⟨0, Nat.zero_le _, rfl, rfl, 0, rfl⟩
        case round =>
          obtain ⟨k, hk, rfl, rfl, q, rfl⟩ := hrel
          by_cases hlt : k < out.length
          · have hlt2 : k < d.length := by omega
            obtain ⟨b1, o1, rfl, hbl1, -, hx⟩ := HROW24.out.rd.path hlt
            obtain ⟨b2, o2, rfl, hbl2, -, hy⟩ := HROW14.out.rd.path hlt2
            have hbd := HBD.out k (by omega) (by omega)
            have HNXT := Lib.hid (HNX.out k hlt hlt2)
            have hx0 := (pathsB_get HOK.out hlt).1
            have hy0 := (pathsB_get HV.out hlt2).1
            obtain ⟨x, hxe⟩ : ∃ x, x = out[k].load := ⟨_, rfl⟩
            obtain ⟨y, hye⟩ : ∃ y, y = d[k].load := ⟨_, rfl⟩
            obtain ⟨S, hSe⟩ : ∃ S, S = diffTo out d k := ⟨_, rfl⟩
            rw [← hxe] at hx hx0 HNXT
            rw [← hye] at hy hy0 HNXT
            rw [← hSe] at hbd HNXT
            rw [← hSe]
            clear hxe hye hSe
            have hw1 : IntKind.i64.wrap (S + x) = S + x := IntWalk.i64_in _ (by omega)
            have hw2 : IntKind.i64.wrap (S + x - y) = S + x - y := IntWalk.i64_in _ (by omega)
            go_wp2
            go_quiet (fail)
            clear hw1 hw2
            go_wp2
            go_roundw
            case rel => exact ⟨k + 1, by omega, by go_num, by rw [HNXT.out], _, rfl⟩
            case measure => simp [intOf]; omega
          · have hke : k = out.length := by omega
            have HD : Hid (diffTo out d k + lost = (m : Int)) := Lib.hid (by rw [hke, HSL.out]; exact HSUM.out)
            obtain ⟨S, hSe⟩ : ∃ S, S = diffTo out d k := ⟨_, rfl⟩
            rw [← hSe] at HD
            rw [← hSe]
            have hS0 : -100000 ≤ S ∧ S ≤ 100000 := by have := HD.out; omega
            clear hSe hke
            have RA := Lib.hid (Row.drewN HROW14.out q)
            have RB := Lib.hid (Row.drewN HROW24.out q)
            have BB : Hid (Below w.heap.size w (w4.drewN q)) := Lib.hid (below_drewN HB4.out q)
            obtain ⟨wa, hwa⟩ : ∃ x, x = w4.drewN q := ⟨_, rfl⟩
            rw [← hwa] at RA RB BB
            rw [← hwa]
            clear hwa
            have hHe := HH.out
            have hSd : (S + lost == (m : Int)) = true := by simpa using HD.out
            have hXd : (ax + (lost - ax) == lost) = true := by rw [beq_iff_eq]; omega
            go_wp2_with fail
            clear hHe
            refine (implSend_any A1 c1 d (hh : Int) _ RA.out.rd (by omega) HNIL.out).mono ?_
            rw [HHS.out]
            rintro e w5 ⟨A5, c5, g5, rfl, hg5, row5, hb5, hn5⟩
            replace row5 : Row ePath w5 g5 33 A5 c5 ao := row5
            have HROW5 := Lib.hid row5
            have HN5 := Lib.hid hn5
            have RB5 := Lib.hid (RB.out.below hb5)
            clear row5 hn5
            go_wp2_with fail
            refine (implSend_any A5 c5 ao ((m : Int) - (hh : Int)) _ HROW5.out.rd (by omega) HN5.out).mono ?_
            rw [HPT.out]
            rintro e w6 ⟨A6, c6, g6, rfl, hg6, row6, hb6, -⟩
            replace row6 : Row ePath w6 g6 33 A6 c6 out := row6
            have RB6 := Lib.hid (RB5.out.below hb6)
            go_wp2_with fail
            refine (samePaths_any A6 A2 c6 c2 out out _ row6.rd RB6.out.rd (by omega) (by omega)).mono ?_
            rw [dec_refl]
            rintro e w7 ⟨rfl, hq7⟩
            have hb7 : Below w6.heap.size w6 w7 := by obtain ⟨q, rfl⟩ := hq7; exact below_drewN (Below.refl _ _) q
            have RB7 := Lib.hid (RB6.out.below hb7)
            have BB7 : Hid (Below w.heap.size w w7) := Lib.hid (Below.next (Below.next (Below.next (W := w) BB.out hb5) hb6) hb7)
            clear hb5 hb6 hb7 hq7 row6
            by_cases hl0 : lost = 0
            · have hl0' : (lost == 0) = true := by simpa using hl0
              clear hl0
              go_wp2_with (go_at_call 15; refine (implPaths_any A2 c2 out _ RB7.out.rd (by omega)).mono ?_; rw [HOK.out]; rintro e w8 ⟨rfl, hb8⟩)
              go_ret
              exact ⟨rfl, (by repeat (first | with_reducible exact BB7.out | with_reducible exact Below.refl _ _ | with_reducible refine below_drewN ?_ _ | with_reducible refine Below.drew ?_ | with_reducible refine Below.alloc ?_ ?_ _ | with_reducible refine Below.setCell ?_ ?_ _ | (with_reducible refine Below.next ?_ (by assumption)) | ((with_reducible refine Below.far' (by assumption) ?_ ?_ ?_); (focus (first | omega | (simp; omega) | (simp; done))); (focus (first | omega | (simp; omega) | (simp; done)))) | omega | (focus (simp; omega)) | (focus (simp; done))))⟩
            · have hl0' : (lost == 0) = false := by simpa using hl0
              have HCH := Lib.hid (HLOST.out hl0)
              clear hl0
              go_wp2_with fail
              refine (implChoose_any A2 c2 out _ RB7.out.rd (by omega)).mono ?_
              rw [HCH.out]
              rintro e w8 ⟨rfl, hb8⟩
              have RB8 := Lib.hid (RB7.out.below hb8)
              go_wp2_with (go_at_call 15; refine (implPaths_any A2 c2 out _ RB8.out.rd (by omega)).mono ?_; rw [HOK.out]; rintro e w9 ⟨rfl, hb9⟩)
              go_ret
              exact ⟨rfl, (by repeat (first | with_reducible exact BB7.out | with_reducible exact Below.refl _ _ | with_reducible refine below_drewN ?_ _ | with_reducible refine Below.drew ?_ | with_reducible refine Below.alloc ?_ ?_ _ | with_reducible refine Below.setCell ?_ ?_ _ | (with_reducible refine Below.next ?_ (by assumption)) | ((with_reducible refine Below.far' (by assumption) ?_ ?_ ?_); (focus (first | omega | (simp; omega) | (simp; done))); (focus (first | omega | (simp; omega) | (simp; done)))) | omega | (focus (simp; omega)) | (focus (simp; done))))⟩
set_option maxRecDepth 100000 in
theorem lifted (os : Os) (started : os.Started) (H : Type) (enc : TypeId × Value → H) :
    ReturnsInHanded {} Try.checked os 10 .any (Rows.fnSendOnSpec.pre6 enc Try.prog Try.f10 Rows.fnSendOnRow.domain false) (Rows.fnSendOnSpec.post enc Try.prog Try.f10 false true false false) := by
  refine returnsInHanded_of_change (C := Try.checked) own_knob started (by kernel_rfl) Try.func10
    (ChangeSpec.witness6 (enc := enc) (C := Try.checked) false ⟨#[], #[.slice none 0 0], []⟩ 8 (by kernel_rfl) (by kernel_rfl) (by kernel_rfl) (by kernel_rfl)) ?_
  intro W base args ds gs before hval0 hW hcnd _
  have hval : ∀ (j : Nat) t v, Try.f10.params[j]? = some t → args[j]? = some v → Value.okWide Try.prog W .any base t v := hval0
  have hW' := hW
  obtain ⟨p, q, hA0, hV, rfl, hfz, hnd⟩ := hW
  have hA : DataW.TrodAll enc Try.prog W 0 (fun _ => true) true Try.f10.params.toList args.toList ds p := hA0
  rw [Try.params10] at hA hval
  obtain ⟨v0, vs0, d0, ds0, p0, q0, hargs, rfl, rfl, h0, r0⟩ := trodAll_cons hA
  obtain ⟨rfl, rfl, rfl⟩ := trodAll_nil r0
  obtain rfl : args = #[v0] := by cases args; simp_all
  obtain ⟨rfl, rfl⟩ := trodVars_none hV
  have k0 := h0
  have lt0 : ∀ x ∈ p0, x.block < W.heap.size := by obtain ⟨m, hm⟩ := k0; exact DataW.trod_lt m _ _ _ hm
  obtain ⟨A0, c0, l0, rfl, hl0, hm0, rd0, by0⟩ := open_bytes Try.underlying30 Try.underlying5 (by kernel_rfl) (hval 0 30 v0 rfl rfl) h0
  clear hA0 hval0
  refine (walk A0 c0 l0 W hl0 hm0 rd0 by0).mono fun e W' ⟨he, bel⟩ => ?_
  subst he
  exact ⟨_, rfl, _, _, _, [], _, [], hW', trodAll_mk1 (shut_bool Try.underlying4 _), (trodAll_cons_mk (Below.trod laid_out (by kernel_rfl) (of_decide_eq_true (by kernel_rfl)) k0 bel lt0) trodAll_mk0), rfl, bel.frame _, fun h => by cases h⟩
theorem over : Rows.fnSendOnRow.holds Try.pinned (OpenSpec.ofChange Rows.fnSendOnSpec) :=
  OpenClaim.holds_of_wide 10 Try.f10 rfl rfl rfl rfl rfl rfl rfl ⟨rfl, rfl, rfl, rfl, rfl⟩ rfl rfl rfl rfl rfl (by kernel_rfl) Try.func10 (by kernel_rfl)
    (of_decide_eq_true (by kernel_rfl)) (by unfold Func.isWrapper; first | (rw [if_pos (by decide +kernel)]; kernel_rfl) | (rw [if_neg (by decide +kernel)]; exact ⟨rfl, rfl⟩))
    (fun os started H enc _ => lifted os started H enc)
theorem proved : Rows.FnSendOnSaid := over
end LwPs
end Go.Proofs.Ytplmfcbikcjccaa
