/-
  FnGrantedTimes: the rate is kept. No condition.
-/
import Derived.Test.YtmgbenfmhgkogaaBase
import Derived.Test.YtmgbenfmhgkogaaNum
import Derived.Test.YtmgbenfmhgkogaaInts
import Derived.Test.YtmgbenfmhgkogaaApp
import Derived.Test.YtmgbenfmhgkogaaIntsW
import Derived.Test.YtmgbenfmhgkogaaLib
import Derived.Test.YtmgbenfmhgkogaaOwn
import Derived.Test.YtmgbenfmhgkogaaSliceV
import Derived.Test.YtmgbenfmhgkogaaBoolW
import Derived.Test.YtmgbenfmhgkogaaBucket
import Derived.Test.YtmgbenfmhgkogaaGrant
import Derived.Test.YtmgbenfmhgkogaaGrantP
import Derived.Test.YtmgbenfmhgkogaaGrantX
import Derived.Test.YtmgbenfmhgkogaaDraw
import Derived.Test.YtmgbenfmhgkogaaDrawK
import Derived.Test.YtmgbenfmhgkogaaDrawT
import Derived.Test.YtmgbenfmhgkogaaOpen
import Derived.IntWalk
namespace Go.Proofs.Ytmgbenfmhgkogaa
open Go.RowKit Go.ChangeShapes Go.WideShapes Go.ChangeAt Go.Deep Go.Joins
theorem spent_bd (cost : Int) (h0 : 0 ≤ cost) (h1 : cost ≤ 1000) (l : List Bool) : 0 ≤ spent cost l ∧ spent cost l ≤ 1000 * l.length := by
  unfold spent
  have hc := List.count_le_length (a := true) (l := l)
  refine ⟨Int.mul_nonneg h0 (by omega), ?_⟩
  exact Int.mul_le_mul h1 (by omega) (by omega) (by omega)
theorem grant_parts {l : List Int} {cost rate most : Int} (h : grantOk l cost rate most = true) : l.length ≤ 60 ∧ (∀ k (hk : k < l.length), 0 ≤ l[k] ∧ l[k] ≤ 100000) ∧ 0 ≤ cost ∧ cost ≤ 1000 ∧ 0 ≤ rate ∧ rate ≤ 100 ∧ 0 ≤ most ∧ most ≤ 1000 := by
  simp only [grantOk, timesB, ratesOk, Bool.and_eq_true, inB_true, decide_eq_true_eq] at h
  obtain ⟨⟨⟨⟨h1, h2⟩, h3⟩, h4, h5⟩, ⟨h6, h7⟩, h8, h9⟩ := h
  exact ⟨h1, fun k hk => allIn_get h2 hk, h4, h5, h6, h7, h8, h9⟩
theorem grantB_len_ok {l : List Int} {cost rate most : Int} (h : grantOk l cost rate most = true) : (grantB l cost rate most).length = l.length := by
  rw [grant_yes h, grantAt_len _ _ _ _ _ (Nat.le_refl _)]
namespace LwGr
set_option maxHeartbeats 8000000 in
theorem walk (A : Option Addr) (c : Nat) (l : List Int) (w : World) (hl : l.length ≤ c) (hm : c ≤ maxLen) (hr : Rd eByte w A l) (hb : ∀ x ∈ l, 0 ≤ x ∧ x ≤ 255) :
    Calls Try.prog 9 #[.slice A l.length c] w fun e w' => e = .returned (.bool true) ∧ Below w.heap.size w w' := by
  have HB := Lib.hid hb
  clear hb
  by_cases hsz : (1048576 : Int) < l.length
  · unfold maxLen at hm
    go_enter Try.func9, Try.ntmps9
    go_wp2
    go_ret
    exact ⟨rfl, (by repeat (first | with_reducible exact Below.refl _ _ | with_reducible assumption | with_reducible refine below_drewN ?_ _ | with_reducible refine Below.drew ?_ | with_reducible refine Below.alloc ?_ ?_ _ | with_reducible refine Below.setCell ?_ ?_ _ | (with_reducible refine Below.next ?_ (by assumption)) | omega | (focus (simp; omega)) | (focus (simp; done))))⟩
  · go_enter Try.func9, Try.ntmps9
    go_wp2_with fail
    refine (drawGr_any A c l _ hl hm hr HB.out).mono ?_
    rintro e w1 ⟨A1, c1, g1, d, cost, rate, most, rfl, hg1, row1, hd, cs0, cs1, rt0, rt1, mo0, mo1, hb1⟩
    have HR1 := Lib.hid row1.rd
    have HB1 := Lib.hid hb1
    have hd15 : (d.length : Int) ≤ 15 := by omega
    have hfl := grantB_lens d 0 rate most
    clear row1 hb1
    obtain ⟨o, ho⟩ : ∃ o, o = grantB d cost rate most := ⟨_, rfl⟩
    obtain ⟨f, hf⟩ : ∃ f, f = grantB d 0 rate most := ⟨_, rfl⟩
    have HO := Lib.hid ho
    have HF := Lib.hid hf
    rw [← hf] at hfl
    clear hf
    cases hok : grantOk d cost rate most
    · rw [grant_no hok] at ho
      subst ho
      clear hok
      go_wp2_with fail
      refine (implGrant_c A1 c1 d cost rate most _ HR1.out (by omega)).mono ?_
      rw [← HO.out]
      rintro e w2 ⟨u2, rfl, ⟨A2, c2, g2, rfl, row2, -⟩, hb2⟩
      have HR2 := Lib.hid (Rd.below HR1.out hb2)
      have HROW2 := Lib.hid row2.rd
      have HB2 : Hid (Below w.heap.size w w2) := Lib.hid (Below.next (W := w) HB1.out hb2)
      clear row2 hb2
      go_wp2_with fail
      refine (specGrant_c A1 c1 d cost rate most _ HR2.out (by omega)).mono ?_
      rw [← HO.out]
      rintro e w3 ⟨u3, rfl, ⟨A3, c3, g3, rfl, row3, -⟩, hb3⟩
      have HR3 := Lib.hid (Rd.below HR2.out hb3)
      have HROW23 := Lib.hid (Rd.below HROW2.out hb3)
      have HROW3 := Lib.hid row3.rd
      have HB3 : Hid (Below w.heap.size w w3) := Lib.hid (Below.next (W := w) HB2.out hb3)
      clear row3 hb3 HROW2 HR1 HR2 HB1 HB2
      go_wp2_with fail
      refine (implGrant_c A1 c1 d 0 rate most _ HR3.out (by omega)).mono ?_
      rw [← HF.out]
      rintro e w4 ⟨u4, rfl, ⟨A4, c4, g4, rfl, row4, -⟩, hb4⟩
      have HB4 : Hid (Below w.heap.size w w4) := Lib.hid (Below.next (W := w) HB3.out hb4)
      clear row4 hb4
      go_wp2
      refine wp_loop_rounds 1 ?_
      rw [rounds_succ]
      by_cases hd0 : d.length = 0
      · have hd0' : ((0 : Int) == (d.length : Int)) = true := by simp [hd0]
        clear hd0
        go_wp2_with (go_at_call 17; refine (alive_any _).mono ?_; rintro e w6 ⟨rfl, hb6⟩)
        go_ret
        exact ⟨rfl, (by repeat (first | with_reducible exact HB4.out | with_reducible exact Below.refl _ _ | with_reducible refine below_drewN ?_ _ | with_reducible refine Below.drew ?_ | with_reducible refine Below.alloc ?_ ?_ _ | with_reducible refine Below.setCell ?_ ?_ _ | (with_reducible refine Below.next ?_ (by assumption)) | ((with_reducible refine Below.far' (by assumption) ?_ ?_ ?_); (focus (first | omega | (simp; omega) | (simp; done))); (focus (first | omega | (simp; omega) | (simp; done)))) | omega | (focus (simp; omega)) | (focus (simp; done))))⟩
      · have hd0' : ((0 : Int) == (d.length : Int)) = false := by rw [beq_eq_false_iff_ne]; omega
        clear hd0
        go_wp2_with (go_at_call 17; refine (alive_any _).mono ?_; rintro e w6 ⟨rfl, hb6⟩)
        go_ret
        exact ⟨rfl, (by repeat (first | with_reducible exact HB4.out | with_reducible exact Below.refl _ _ | with_reducible refine below_drewN ?_ _ | with_reducible refine Below.drew ?_ | with_reducible refine Below.alloc ?_ ?_ _ | with_reducible refine Below.setCell ?_ ?_ _ | (with_reducible refine Below.next ?_ (by assumption)) | ((with_reducible refine Below.far' (by assumption) ?_ ?_ ?_); (focus (first | omega | (simp; omega) | (simp; done))); (focus (first | omega | (simp; omega) | (simp; done)))) | omega | (focus (simp; omega)) | (focus (simp; done))))⟩
    · obtain ⟨-, hdk, cc0, cc1, -, -, -, -⟩ := grant_parts hok
      have hol := grantB_len_ok hok
      have hfr := grantB_free d cost rate most hok
      rw [← HF.out] at hfr
      have HSP := Lib.hid (fun k (hk : k < d.length) => grantB_spent d cost rate most hok k hk)
      rw [← ho] at hol HSP
      have HOL := Lib.hid hol
      have hol1 : o.length ≤ d.length := by omega
      have hol2 : d.length ≤ o.length := by omega
      have hff : f.length = d.length := by rw [hfr]; simp
      have hff1 : f.length ≤ d.length := by omega
      have hff2 : d.length ≤ f.length := by omega
      have HFR : Hid (∀ k (hk : k < f.length), f[k] = true) := Lib.hid fun k hk => by simp only [hfr]; simp
      have HDK := Lib.hid hdk
      clear hok ho hol hfr hff hdk
      go_wp2_with fail
      refine (implGrant_c A1 c1 d cost rate most _ HR1.out (by omega)).mono ?_
      rw [← HO.out]
      rintro e w2 ⟨u2, rfl, ⟨A2, c2, g2, rfl, row2, -⟩, hb2⟩
      have HR2 := Lib.hid (Rd.below HR1.out hb2)
      have HROW2 := Lib.hid row2.rd
      have HB2 : Hid (Below w.heap.size w w2) := Lib.hid (Below.next (W := w) HB1.out hb2)
      clear row2 hb2
      go_wp2_with fail
      refine (specGrant_c A1 c1 d cost rate most _ HR2.out (by omega)).mono ?_
      rw [← HO.out]
      rintro e w3 ⟨u3, rfl, ⟨A3, c3, g3, rfl, row3, -⟩, hb3⟩
      have HR3 := Lib.hid (Rd.below HR2.out hb3)
      have HROW23 := Lib.hid (Rd.below HROW2.out hb3)
      have HROW3 := Lib.hid row3.rd
      have HB3 : Hid (Below w.heap.size w w3) := Lib.hid (Below.next (W := w) HB2.out hb3)
      clear row3 hb3 HROW2 HR1 HR2 HB1 HB2
      go_wp2_with fail
      refine (implGrant_c A1 c1 d 0 rate most _ HR3.out (by omega)).mono ?_
      rw [← HF.out]
      rintro e w4 ⟨u4, rfl, ⟨A4, c4, g4, rfl, row4, -⟩, hb4⟩
      have HB4 : Hid (Below w.heap.size w w4) := Lib.hid (Below.next (W := w) HB3.out hb4)
      have HR4 := Lib.hid (Rd.below HR3.out hb4)
      have HROW24 := Lib.hid (Rd.below HROW23.out hb4)
      have HROW34 := Lib.hid (Rd.below HROW3.out hb4)
      have HROW4 := Lib.hid row4.rd
      clear row4 hb4 HR3 HROW23 HROW3 HB3
      go_wp2
      go_loopw [10, 11] (fun s i wr => ∃ k : Nat, k ≤ o.length ∧ i = .int .i64 k ∧ s = .int .i64 (spent cost (o.take k)) ∧ ∃ q, wr = w4.drewN q) (fun _ i _ => o.length - (intOf i).toNat)
      case atStart => exact ⟨0, Nat.zero_le _, rfl, by simp [spent], 0, rfl⟩
      case round =>
        obtain ⟨k, hk, rfl, rfl, q, rfl⟩ := hrel
        by_cases hlt : k < o.length
        · have hlt2 : k < d.length := by omega
          have hlt3 : k < f.length := by omega
          obtain ⟨b1, o1, rfl, hbl1, hx0⟩ := HROW24.out.bools (by omega)
          obtain ⟨b2, o2, rfl, hbl2, hy0⟩ := HROW34.out.bools (by omega)
          obtain ⟨b3, o3, rfl, hbl3, hz0⟩ := HROW4.out.bools (by omega)
          obtain ⟨b4, o4, rfl, hbl4, hd0⟩ := HR4.out.int hlt2
          have hx := hx0 k hlt
          have hy := hy0 k hlt
          have hz := hz0 k hlt3
          rw [HFR.out k hlt3] at hz
          clear hx0 hy0 hz0
          have hsp := HSP.out k hlt2
          rw [List.take_succ_eq_append_getElem hlt, spent_snoc] at hsp
          have HTK : Hid (spent cost (o.take (k + 1)) = spent cost (o.take k) + if o[k] then cost else 0) := Lib.hid (by rw [List.take_succ_eq_append_getElem hlt, spent_snoc])
          have hbd := spent_bd cost cc0 cc1 (o.take k)
          have htl : (o.take k).length ≤ 15 := by simp; omega
          obtain ⟨x0, x1⟩ := HDK.out k hlt2
          obtain ⟨x, hxe⟩ : ∃ x, x = d[k] := ⟨_, rfl⟩
          obtain ⟨ok, hoe⟩ : ∃ ok, ok = o[k] := ⟨_, rfl⟩
          obtain ⟨S, hSe⟩ : ∃ S, S = spent cost (o.take k) := ⟨_, rfl⟩
          rw [← hxe] at hd0 hsp x0 x1
          rw [← hoe] at hx hy hsp HTK
          rw [← hSe] at hsp HTK hbd
          rw [← hSe]
          clear hxe hoe hSe
          have hm0 : 0 ≤ rate * x := Int.mul_nonneg rt0 x0
          have hm1 : rate * x ≤ 6 * 100000 := Int.mul_le_mul (by omega) x1 x0 (by omega)
          obtain ⟨hbd0, hbd1⟩ := hbd
          have hS2 : S ≤ 15000 := by omega
          clear hbd1 htl
          cases ok
          · simp only [Bool.false_eq_true, if_false, Int.add_zero] at hsp
            have hgt : decide (most + rate * x < S) = false := by simp; omega
            go_wp2
            go_quiet (fail)
            go_wp2
            go_roundw
            case rel => exact ⟨k + 1, by omega, by go_num, by rw [HTK.out]; simp, _, rfl⟩
            case measure => simp [intOf]; omega
          · simp only [if_true] at hsp
            have hgt : decide (most + rate * x < S + cost) = false := by simp; omega
            go_wp2
            go_quiet (fail)
            go_wp2
            go_roundw
            case rel => exact ⟨k + 1, by omega, by go_num, by rw [HTK.out]; simp, _, rfl⟩
            case measure => simp [intOf]; omega
        · have hee : ((o.length : Int) == (d.length : Int)) = true := by rw [beq_iff_eq]; omega
          have hee2 : (o.length == d.length) = true := by rw [beq_iff_eq]; omega
          have HBQ : Hid (Below w.heap.size w (w4.drewN q)) := Lib.hid (below_drewN HB4.out q)
          go_wp2_with (go_at_call 17; refine (alive_any _).mono ?_; rintro e w6 ⟨rfl, hb6⟩)
          go_ret
          exact ⟨rfl, (by repeat (first | with_reducible exact HBQ.out | with_reducible exact Below.refl _ _ | with_reducible refine below_drewN ?_ _ | with_reducible refine Below.drew ?_ | with_reducible refine Below.alloc ?_ ?_ _ | with_reducible refine Below.setCell ?_ ?_ _ | (with_reducible refine Below.next ?_ (by assumption)) | ((with_reducible refine Below.far' (by assumption) ?_ ?_ ?_); (focus (first | omega | (simp; omega) | (simp; done))); (focus (first | omega | (simp; omega) | (simp; done)))) | omega | (focus (simp; omega)) | (focus (simp; done))))⟩
set_option maxRecDepth 100000 in
theorem lifted (os : Os) (started : os.Started) (H : Type) (enc : TypeId × Value → H) :
    ReturnsInHanded {} Try.checked os 9 .any (Rows.fnGrantedTimesSpec.pre6 enc Try.prog Try.f9 Rows.fnGrantedTimesRow.domain false) (Rows.fnGrantedTimesSpec.post enc Try.prog Try.f9 false true false false) := by
  refine returnsInHanded_of_change (C := Try.checked) own_knob started (by kernel_rfl) Try.func9
    (ChangeSpec.witness6 (enc := enc) (C := Try.checked) false ⟨#[], #[.slice none 0 0], []⟩ 8 (by kernel_rfl) (by kernel_rfl) (by kernel_rfl) (by kernel_rfl)) ?_
  intro W base args ds gs before hval0 hW hcnd _
  have hval : ∀ (j : Nat) t v, Try.f9.params[j]? = some t → args[j]? = some v → Value.okWide Try.prog W .any base t v := hval0
  have hW' := hW
  obtain ⟨p, q, hA0, hV, rfl, hfz, hnd⟩ := hW
  have hA : DataW.TrodAll enc Try.prog W 0 (fun _ => true) true Try.f9.params.toList args.toList ds p := hA0
  rw [Try.params9] at hA hval
  obtain ⟨v0, vs0, d0, ds0, p0, q0, hargs, rfl, rfl, h0, r0⟩ := trodAll_cons hA
  obtain ⟨rfl, rfl, rfl⟩ := trodAll_nil r0
  obtain rfl : args = #[v0] := by cases args; simp_all
  obtain ⟨rfl, rfl⟩ := trodVars_none hV
  have k0 := h0
  have lt0 : ∀ x ∈ p0, x.block < W.heap.size := by obtain ⟨m, hm⟩ := k0; exact DataW.trod_lt m _ _ _ hm
  obtain ⟨A0, c0, l0, rfl, hl0, hm0, rd0, by0⟩ := open_bytes Try.underlying32 Try.underlying5 (by kernel_rfl) (hval 0 32 v0 rfl rfl) h0
  clear hA0 hval0
  refine (walk A0 c0 l0 W hl0 hm0 rd0 by0).mono fun e W' ⟨he, bel⟩ => ?_
  subst he
  exact ⟨_, rfl, _, _, _, [], _, [], hW', trodAll_mk1 (shut_bool Try.underlying4 _), (trodAll_cons_mk (Below.trod laid_out (by kernel_rfl) (of_decide_eq_true (by kernel_rfl)) k0 bel lt0) trodAll_mk0), rfl, bel.frame _, fun h => by cases h⟩
theorem over : Rows.fnGrantedTimesRow.holds Try.pinned (OpenSpec.ofChange Rows.fnGrantedTimesSpec) :=
  OpenClaim.holds_of_wide 9 Try.f9 rfl rfl rfl rfl rfl rfl rfl ⟨rfl, rfl, rfl, rfl, rfl⟩ rfl rfl rfl rfl rfl (by kernel_rfl) Try.func9 (by kernel_rfl)
    (of_decide_eq_true (by kernel_rfl)) (by unfold Func.isWrapper; first | (rw [if_pos (by decide +kernel)]; kernel_rfl) | (rw [if_neg (by decide +kernel)]; exact ⟨rfl, rfl⟩))
    (fun os started H enc _ => lifted os started H enc)
theorem proved : Rows.FnGrantedTimesSaid := over
end LwGr
end Go.Proofs.Ytmgbenfmhgkogaa
