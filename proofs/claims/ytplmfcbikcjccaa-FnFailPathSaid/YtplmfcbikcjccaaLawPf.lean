/-
  FnFailPath: failed paths are replaced. No condition.
-/
import Derived.Test.YtplmfcbikcjccaaBase
import Derived.Test.YtplmfcbikcjccaaNum
import Derived.Test.YtplmfcbikcjccaaInts
import Derived.Test.YtplmfcbikcjccaaApp
import Derived.Test.YtplmfcbikcjccaaIntsW
import Derived.Test.YtplmfcbikcjccaaLib
import Derived.Test.YtplmfcbikcjccaaPathM
import Derived.Test.YtplmfcbikcjccaaPathP
import Derived.Test.YtplmfcbikcjccaaPath
import Derived.Test.YtplmfcbikcjccaaPathC
import Derived.Test.YtplmfcbikcjccaaDraw
import Derived.Test.YtplmfcbikcjccaaDrawP
import Derived.Test.YtplmfcbikcjccaaDrawPs
import Derived.Test.YtplmfcbikcjccaaOpen
import Derived.IntWalk
namespace Go.Proofs.Ytplmfcbikcjccaa
open Go.RowKit Go.ChangeShapes Go.WideShapes Go.ChangeAt Go.Deep Go.Joins
theorem failB_no1 {l : List Pth} {n : Int} (h : pathsB l = false) : failB l n = ([], 0) := by simp [failB, h]
theorem failB_no2 {l : List Pth} {n : Int} (h : inB n 0 (l.length - 1) = false) : failB l n = ([], 0) := by simp [failB, h]
theorem failB_yes {l : List Pth} {n : Nat} (h : pathsB l = true) (hn : n < l.length) : failB l (n : Int) = ((sendTo (l.set n ⟨false, 0⟩) (min l[n].load 500).toNat).1, (sendTo (l.set n ⟨false, 0⟩) (min l[n].load 500).toNat).2 + max 0 (l[n].load - 500)) := by
  have hi : inB (n : Int) 0 (l.length - 1) = true := inB_true.2 (by omega)
  simp only [failB, h, hi, Bool.and_self, if_true, Int.toNat_natCast]
  simp [hn]
theorem pathsB_failed {l : List Pth} (hv : pathsB l = true) (m : Nat) : pathsB (l.set m ⟨false, 0⟩) = true := pathsB_set hv m _ (by decide)
theorem fail_facts {l : List Pth} {n : Nat} (h : pathsB l = true) (hn : n < l.length) :
    ∃ out lost, failB l (n : Int) = (out, lost) ∧ out.length = l.length ∧ 0 ≤ lost ∧ lost ≤ 1500 ∧ pathsB out = true ∧ (∃ hn' : n < out.length, out[n] = ⟨false, 0⟩) ∧ lost + diffTo out l l.length = 0 ∧ failB out (n : Int) = (out, 0) := by
  have hok := pathsB_failed h n
  obtain ⟨q, hq⟩ : ∃ q, q = (min l[n].load 500).toNat := ⟨_, rfl⟩
  obtain ⟨⟨b0, b1⟩, _⟩ := pathsB_get h hn
  have hl := sendTo_lost (l.set n ⟨false, 0⟩) q
  have hlen := sendTo_length (l.set n ⟨false, 0⟩) q
  rw [List.length_set] at hlen
  have hok2 := sendTo_ok hok q
  have hup := sendTo_up (l.set n ⟨false, 0⟩) q n (by simpa using hn)
  obtain ⟨hnn, _, hf⟩ := hup
  have hf := hf (by simp)
  rw [List.getElem_set_self] at hf
  have hfb : failB l (n : Int) = ((sendTo (l.set n ⟨false, 0⟩) q).1, (sendTo (l.set n ⟨false, 0⟩) q).2 + max 0 (l[n].load - 500)) := by rw [failB_yes h hn, ← hq]
  refine ⟨_, _, hfb, hlen, by omega, by omega, hok2, ⟨hnn, hf⟩, ?_, ?_⟩
  · have h1 := diffTo_all (sendTo (l.set n ⟨false, 0⟩) q).1 l hlen
    rw [hlen] at h1
    rw [h1]
    have h2 := sendTo_sum (l.set n ⟨false, 0⟩) q
    rw [sumLoad_set hn] at h2
    have e3 : (⟨false, 0⟩ : Pth).load = 0 := rfl
    omega
  · rw [failB_yes hok2 hnn, hf]
    have hself : (sendTo (l.set n ⟨false, 0⟩) q).1.set n ⟨false, 0⟩ = (sendTo (l.set n ⟨false, 0⟩) q).1 := by
      have h := List.set_getElem_self hnn; rw [hf] at h; exact h
    have e : (min (0 : Int) 500).toNat = 0 := by decide
    have e2 : max (0 : Int) (0 - 500) = 0 := by decide
    rw [hself, e, e2]
    rfl
namespace LwPf
set_option maxHeartbeats 8000000 in
theorem walk (A : Option Addr) (c : Nat) (l : List Int) (w : World) (hl : l.length ≤ c) (hm : c ≤ maxLen) (hr : Rd eByte w A l) (hb : ∀ x ∈ l, 0 ≤ x ∧ x ≤ 255) :
    Calls Try.prog 11 #[.slice A l.length c] w fun e w' => e = .returned (.bool true) ∧ Below w.heap.size w w' := by
  have HB := Lib.hid hb
  clear hb
  by_cases hsz : (1048576 : Int) < l.length
  · unfold maxLen at hm
    go_enter Try.func11, Try.ntmps11
    go_wp2
    go_ret
    exact ⟨rfl, (by repeat (first | with_reducible exact Below.refl _ _ | with_reducible assumption | with_reducible refine below_drewN ?_ _ | with_reducible refine Below.drew ?_ | with_reducible refine Below.alloc ?_ ?_ _ | with_reducible refine Below.setCell ?_ ?_ _ | (with_reducible refine Below.next ?_ (by assumption)) | omega | (focus (simp; omega)) | (focus (simp; done))))⟩
  · go_enter Try.func11, Try.ntmps11
    go_wp2_with fail
    refine (drawPf_any A c l _ hl hm hr HB.out).mono ?_
    rintro e w1 ⟨A1, c1, g1, d, n, rfl, hg1, row1, hd, hn0, hn1, hb1⟩
    have hz1 := hb1.size
    have hd7 : (d.length : Int) ≤ 7 := by omega
    have HROW1 := Lib.hid row1
    have HNIL := Lib.hid row1.nilc
    cases hv : pathsB d
    · have HS := Lib.hid (failB_no1 (n := n) hv)
      clear hv
      go_wp2_with fail
      refine (implFail_any A1 c1 d (n) _ HROW1.out.rd (by omega) HNIL.out).mono ?_
      rw [HS.out]
      rintro e w2 ⟨A2, c2, g2, rfl, hg2, row2, hb2, hn2⟩
      replace row2 : Row ePath w2 g2 33 A2 c2 ([] : List Pth) := row2
      have HROW12 := Lib.hid (HROW1.out.below hb2)
      have HROW2 := Lib.hid row2
      have HN2 := Lib.hid hn2
      clear row2 hn2
      go_wp2_with fail
      refine (specFail_any A1 c1 d (n) _ HROW12.out.rd (by omega)).mono ?_
      rw [HS.out]
      rintro e w3 ⟨A3, c3, g3, rfl, hg3, row3, hb3, -⟩
      replace row3 : Row ePath w3 g3 33 A3 c3 ([] : List Pth) := row3
      have HROW13 := Lib.hid (HROW12.out.below hb3)
      have HROW23 := Lib.hid (HROW2.out.below hb3)
      go_wp2_with fail
      refine (samePaths_any A2 A3 c2 c3 ([] : List Pth) ([] : List Pth) _ HROW23.out.rd row3.rd (by simp) (by simp)).mono ?_
      rw [dec_refl]
      rintro e w4 ⟨rfl, hq4⟩
      have hb4 : Below w3.heap.size w3 w4 := by obtain ⟨q, rfl⟩ := hq4; exact below_drewN (Below.refl _ _) q
      have HROW14 := Lib.hid (HROW13.out.below hb4)
      have HROW24 := Lib.hid (HROW23.out.below hb4)
      have HB4 : Hid (Below w.heap.size w w4) := Lib.hid (Below.next (Below.next (Below.next (W := w) hb1 hb2) hb3) hb4)
      clear hb1 hb2 hb3 hb4 hq4 row1 row3 HROW1 HROW12 HROW2 HROW13 HROW23
      go_wp2_with (go_at_call 20; refine (alive_any _).mono ?_; rintro e w6 ⟨rfl, hb6⟩)
      go_ret
      exact ⟨rfl, (by repeat (first | with_reducible exact HB4.out | with_reducible exact Below.refl _ _ | with_reducible refine below_drewN ?_ _ | with_reducible refine Below.drew ?_ | with_reducible refine Below.alloc ?_ ?_ _ | with_reducible refine Below.setCell ?_ ?_ _ | (with_reducible refine Below.next ?_ (by assumption)) | ((with_reducible refine Below.far' (by assumption) ?_ ?_ ?_); (focus (first | omega | (simp; omega) | (simp; done))); (focus (first | omega | (simp; omega) | (simp; done)))) | omega | (focus (simp; omega)) | (focus (simp; done))))⟩
    · have HV := Lib.hid hv
      cases hi : inB n 0 (d.length - 1)
      · have HS := Lib.hid (failB_no2 (l := d) hi)
        clear hv hi
        go_wp2_with fail
        refine (implFail_any A1 c1 d (n) _ HROW1.out.rd (by omega) HNIL.out).mono ?_
        rw [HS.out]
        rintro e w2 ⟨A2, c2, g2, rfl, hg2, row2, hb2, hn2⟩
        replace row2 : Row ePath w2 g2 33 A2 c2 ([] : List Pth) := row2
        have HROW12 := Lib.hid (HROW1.out.below hb2)
        have HROW2 := Lib.hid row2
        have HN2 := Lib.hid hn2
        clear row2 hn2
        go_wp2_with fail
        refine (specFail_any A1 c1 d (n) _ HROW12.out.rd (by omega)).mono ?_
        rw [HS.out]
        rintro e w3 ⟨A3, c3, g3, rfl, hg3, row3, hb3, -⟩
        replace row3 : Row ePath w3 g3 33 A3 c3 ([] : List Pth) := row3
        have HROW13 := Lib.hid (HROW12.out.below hb3)
        have HROW23 := Lib.hid (HROW2.out.below hb3)
        go_wp2_with fail
        refine (samePaths_any A2 A3 c2 c3 ([] : List Pth) ([] : List Pth) _ HROW23.out.rd row3.rd (by simp) (by simp)).mono ?_
        rw [dec_refl]
        rintro e w4 ⟨rfl, hq4⟩
        have hb4 : Below w3.heap.size w3 w4 := by obtain ⟨q, rfl⟩ := hq4; exact below_drewN (Below.refl _ _) q
        have HROW14 := Lib.hid (HROW13.out.below hb4)
        have HROW24 := Lib.hid (HROW23.out.below hb4)
        have HB4 : Hid (Below w.heap.size w w4) := Lib.hid (Below.next (Below.next (Below.next (W := w) hb1 hb2) hb3) hb4)
        clear hb1 hb2 hb3 hb4 hq4 row1 row3 HROW1 HROW12 HROW2 HROW13 HROW23
        go_wp2_with (go_at_call 20; refine (alive_any _).mono ?_; rintro e w6 ⟨rfl, hb6⟩)
        go_ret
        exact ⟨rfl, (by repeat (first | with_reducible exact HB4.out | with_reducible exact Below.refl _ _ | with_reducible refine below_drewN ?_ _ | with_reducible refine Below.drew ?_ | with_reducible refine Below.alloc ?_ ?_ _ | with_reducible refine Below.setCell ?_ ?_ _ | (with_reducible refine Below.next ?_ (by assumption)) | ((with_reducible refine Below.far' (by assumption) ?_ ?_ ?_); (focus (first | omega | (simp; omega) | (simp; done))); (focus (first | omega | (simp; omega) | (simp; done)))) | omega | (focus (simp; omega)) | (focus (simp; done))))⟩
      · obtain ⟨n0, n5⟩ := inB_true.1 hi
        obtain ⟨m, rfl⟩ := Int.eq_ofNat_of_zero_le n0
        have hmd : m < d.length := by omega
        obtain ⟨out, lost, hS, hlen, lost0, lost1, hok, ⟨hmo, hmp⟩, hsum, hag⟩ := fail_facts hv hmd
        have HS := Lib.hid hS
        have HLEN := Lib.hid hlen
        have HOK := Lib.hid hok
        have HMP := Lib.hid hmp
        have HSUM := Lib.hid hsum
        have HAG := Lib.hid hag
        have HBD := Lib.hid (diffTo_bd out d hok hv)
        have HNX := Lib.hid (diffTo_next out d)
        have hsl7 : (out.length : Int) ≤ 7 := by omega
        have hslo : (d.length : Int) ≤ out.length ∧ (out.length : Int) ≤ d.length := by omega
        have hpos : ((out.length : Int) == 0) = false := by rw [beq_eq_false_iff_ne]; omega
        clear hS hlen hok hmp hsum hag hv hi
        go_wp2_with fail
        refine (implFail_any A1 c1 d ((m : Int)) _ HROW1.out.rd (by omega) HNIL.out).mono ?_
        rw [HS.out]
        rintro e w2 ⟨A2, c2, g2, rfl, hg2, row2, hb2, hn2⟩
        replace row2 : Row ePath w2 g2 33 A2 c2 out := row2
        have HROW12 := Lib.hid (HROW1.out.below hb2)
        have HROW2 := Lib.hid row2
        have HN2 := Lib.hid hn2
        clear row2 hn2
        go_wp2_with fail
        refine (specFail_any A1 c1 d ((m : Int)) _ HROW12.out.rd (by omega)).mono ?_
        rw [HS.out]
        rintro e w3 ⟨A3, c3, g3, rfl, hg3, row3, hb3, -⟩
        replace row3 : Row ePath w3 g3 33 A3 c3 out := row3
        have HROW13 := Lib.hid (HROW12.out.below hb3)
        have HROW23 := Lib.hid (HROW2.out.below hb3)
        go_wp2_with fail
        refine (samePaths_any A2 A3 c2 c3 out out _ HROW23.out.rd row3.rd (by omega) (by omega)).mono ?_
        rw [dec_refl]
        rintro e w4 ⟨rfl, hq4⟩
        have hb4 : Below w3.heap.size w3 w4 := by obtain ⟨q, rfl⟩ := hq4; exact below_drewN (Below.refl _ _) q
        have HROW14 := Lib.hid (HROW13.out.below hb4)
        have HROW24 := Lib.hid (HROW23.out.below hb4)
        have HB4 : Hid (Below w.heap.size w w4) := Lib.hid (Below.next (Below.next (Below.next (W := w) hb1 hb2) hb3) hb4)
        clear hb1 hb2 hb3 hb4 hq4 row1 row3 HROW1 HROW12 HROW2 HROW13 HROW23
        go_wp2_with fail
        go_loopw [9, 10] (fun s i wr => ∃ k : Nat, k ≤ out.length ∧ i = .int .i64 k ∧ s = .int .i64 (lost + diffTo out d k) ∧ ∃ q, wr = w4.drewN q) (fun _ i _ => out.length - (intOf i).toNat)
        case atStart => exact ⟨0, Nat.zero_le _, rfl, by simp [diffTo], 0, rfl⟩
        case round =>
          obtain ⟨k, hk, rfl, rfl, q, rfl⟩ := hrel
          by_cases hlt : k < out.length
          · have hlt2 : k < d.length := by omega
            obtain ⟨b1, o1, rfl, hbl1, -, hx⟩ := HROW24.out.rd.path hlt
            obtain ⟨b2, o2, rfl, hbl2, -, hy⟩ := HROW14.out.rd.path hlt2
            have hbd := HBD.out k (by omega) (by omega)
            have HNXT := Lib.hid (HNX.out k hlt hlt2)
            have hx0 := (pathsB_get HOK.out hlt).1
            have hy0 := (pathsB_get HV.out hlt2).1
            obtain ⟨x, hxe⟩ : ∃ x, x = out[k].load := ⟨_, rfl⟩
            obtain ⟨y, hye⟩ : ∃ y, y = d[k].load := ⟨_, rfl⟩
            obtain ⟨S, hSe⟩ : ∃ S, S = lost + diffTo out d k := ⟨_, rfl⟩
            have HSE := Lib.hid hSe
            rw [← hxe] at hx hx0 HNXT
            rw [← hye] at hy hy0 HNXT
            rw [← hSe]
            have hS0 : -10000 ≤ S ∧ S ≤ 10000 := by omega
            clear hxe hye hSe hbd
            have hw1 : IntKind.i64.wrap (S + x) = S + x := IntWalk.i64_in _ (by omega)
            have hw2 : IntKind.i64.wrap (S + x - y) = S + x - y := IntWalk.i64_in _ (by omega)
            go_wp2
            go_quiet (fail)
            clear hw1 hw2
            go_wp2
            go_roundw
            case rel => exact ⟨k + 1, by omega, by go_num, by rw [HNXT.out, HSE.out]; congr 1; omega, _, rfl⟩
            case measure => simp [intOf]; omega
          · have hke : k = out.length := by omega
            have HD : Hid (lost + diffTo out d k = 0) := Lib.hid (by rw [hke, HLEN.out]; exact HSUM.out)
            rw [HD.out]
            clear hke
            have RA := Lib.hid (Row.drewN HROW14.out q)
            have RB := Lib.hid (Row.drewN HROW24.out q)
            have BB : Hid (Below w.heap.size w (w4.drewN q)) := Lib.hid (below_drewN HB4.out q)
            obtain ⟨wa, hwa⟩ : ∃ x, x = w4.drewN q := ⟨_, rfl⟩
            rw [← hwa] at RA RB BB
            rw [← hwa]
            clear hwa
            go_wp2_with fail
            refine (implFail_any A2 c2 out (m : Int) _ RB.out.rd (by omega) HN2.out).mono ?_
            rw [HAG.out]
            rintro e w5 ⟨A5, c5, g5, rfl, hg5, row5, hb5, hn5⟩
            replace row5 : Row ePath w5 g5 33 A5 c5 out := row5
            have RB5 := Lib.hid (RB.out.below hb5)
            obtain ⟨b1, o1, rfl, hbl1, hup, hlo⟩ := RB5.out.rd.path hmo
            rw [HMP.out] at hup hlo
            simp only at hup hlo
            have BB5 : Hid (Below w.heap.size w w5) := Lib.hid (Below.next (W := w) BB.out hb5)
            have hm0 : (0 : Int) ≤ (m : Int) := by omega
            go_wp2_with (go_at_call 29; refine (samePaths_any A5 _ c5 c2 out out _ row5.rd RB5.out.rd (by omega) (by omega)).mono ?_; rw [dec_refl]; rintro e w7 ⟨rfl, q7, rfl⟩)
            go_ret
            exact ⟨rfl, (by repeat (first | with_reducible exact BB5.out | with_reducible exact Below.refl _ _ | with_reducible refine below_drewN ?_ _ | with_reducible refine Below.drew ?_ | with_reducible refine Below.alloc ?_ ?_ _ | with_reducible refine Below.setCell ?_ ?_ _ | (with_reducible refine Below.next ?_ (by assumption)) | ((with_reducible refine Below.far' (by assumption) ?_ ?_ ?_); (focus (first | omega | (simp; omega) | (simp; done))); (focus (first | omega | (simp; omega) | (simp; done)))) | omega | (focus (simp; omega)) | (focus (simp; done))))⟩
set_option maxRecDepth 100000 in
theorem lifted (os : Os) (started : os.Started) (H : Type) (enc : TypeId × Value → H) :
    ReturnsInHanded {} Try.checked os 11 .any (Rows.fnFailPathSpec.pre6 enc Try.prog Try.f11 Rows.fnFailPathRow.domain false) (Rows.fnFailPathSpec.post enc Try.prog Try.f11 false true false false) := by
  refine returnsInHanded_of_change (C := Try.checked) own_knob started (by kernel_rfl) Try.func11
    (ChangeSpec.witness6 (enc := enc) (C := Try.checked) false ⟨#[], #[.slice none 0 0], []⟩ 8 (by kernel_rfl) (by kernel_rfl) (by kernel_rfl) (by kernel_rfl)) ?_
  intro W base args ds gs before hval0 hW hcnd _
  have hval : ∀ (j : Nat) t v, Try.f11.params[j]? = some t → args[j]? = some v → Value.okWide Try.prog W .any base t v := hval0
  have hW' := hW
  obtain ⟨p, q, hA0, hV, rfl, hfz, hnd⟩ := hW
  have hA : DataW.TrodAll enc Try.prog W 0 (fun _ => true) true Try.f11.params.toList args.toList ds p := hA0
  rw [Try.params11] at hA hval
  obtain ⟨v0, vs0, d0, ds0, p0, q0, hargs, rfl, rfl, h0, r0⟩ := trodAll_cons hA
  obtain ⟨rfl, rfl, rfl⟩ := trodAll_nil r0
  obtain rfl : args = #[v0] := by cases args; simp_all
  obtain ⟨rfl, rfl⟩ := trodVars_none hV
  have k0 := h0
  have lt0 : ∀ x ∈ p0, x.block < W.heap.size := by obtain ⟨m, hm⟩ := k0; exact DataW.trod_lt m _ _ _ hm
  obtain ⟨A0, c0, l0, rfl, hl0, hm0, rd0, by0⟩ := open_bytes Try.underlying30 Try.underlying5 (by kernel_rfl) (hval 0 30 v0 rfl rfl) h0
  clear hA0 hval0
  refine (walk A0 c0 l0 W hl0 hm0 rd0 by0).mono fun e W' ⟨he, bel⟩ => ?_
  subst he
  exact ⟨_, rfl, _, _, _, [], _, [], hW', trodAll_mk1 (shut_bool Try.underlying4 _), (trodAll_cons_mk (Below.trod laid_out (by kernel_rfl) (of_decide_eq_true (by kernel_rfl)) k0 bel lt0) trodAll_mk0), rfl, bel.frame _, fun h => by cases h⟩
theorem over : Rows.fnFailPathRow.holds Try.pinned (OpenSpec.ofChange Rows.fnFailPathSpec) :=
  OpenClaim.holds_of_wide 11 Try.f11 rfl rfl rfl rfl rfl rfl rfl ⟨rfl, rfl, rfl, rfl, rfl⟩ rfl rfl rfl rfl rfl (by kernel_rfl) Try.func11 (by kernel_rfl)
    (of_decide_eq_true (by kernel_rfl)) (by unfold Func.isWrapper; first | (rw [if_pos (by decide +kernel)]; kernel_rfl) | (rw [if_neg (by decide +kernel)]; exact ⟨rfl, rfl⟩))
    (fun os started H enc _ => lifted os started H enc)
theorem proved : Rows.FnFailPathSaid := over
end LwPf
end Go.Proofs.Ytplmfcbikcjccaa
