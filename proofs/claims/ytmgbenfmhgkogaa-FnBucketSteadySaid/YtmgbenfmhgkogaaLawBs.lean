/-
  FnBucketSteady: steady requests are granted. No condition.
-/
import Derived.Test.YtmgbenfmhgkogaaBase
import Derived.Test.YtmgbenfmhgkogaaNum
import Derived.Test.YtmgbenfmhgkogaaInts
import Derived.Test.YtmgbenfmhgkogaaApp
import Derived.Test.YtmgbenfmhgkogaaIntsW
import Derived.Test.YtmgbenfmhgkogaaLib
import Derived.Test.YtmgbenfmhgkogaaOwn
import Derived.Test.YtmgbenfmhgkogaaSliceV
import Derived.Test.YtmgbenfmhgkogaaBoolW
import Derived.Test.YtmgbenfmhgkogaaBucket
import Derived.Test.YtmgbenfmhgkogaaGrant
import Derived.Test.YtmgbenfmhgkogaaGrantP
import Derived.Test.YtmgbenfmhgkogaaGrantX
import Derived.Test.YtmgbenfmhgkogaaDraw
import Derived.Test.YtmgbenfmhgkogaaDrawK
import Derived.Test.YtmgbenfmhgkogaaDrawT
import Derived.Test.YtmgbenfmhgkogaaOpen
import Derived.IntWalk
namespace Go.Proofs.Ytmgbenfmhgkogaa
open Go.RowKit Go.ChangeShapes Go.WideShapes Go.ChangeAt Go.Deep Go.Joins
theorem steady_take (n : Nat) (hn : n ≤ 15) (rate most : Int) (h0 : 0 ≤ rate) (h1 : rate ≤ 6) (h2 : 0 ≤ most) (h3 : most ≤ 40) : grantB (steadyL n) rate rate most = List.replicate n (decide (rate ≤ most)) := by
  refine steady_all n rate most ?_
  simp only [grantOk, ratesOk, Bool.and_eq_true, inB_true]
  exact ⟨⟨steady_times n (by omega), by omega, by omega⟩, ⟨by omega, by omega⟩, by omega, by omega⟩
namespace LwBs
set_option maxHeartbeats 8000000 in
theorem walk (A : Option Addr) (c : Nat) (l : List Int) (w : World) (hl : l.length ≤ c) (hm : c ≤ maxLen) (hr : Rd eByte w A l) (hb : ∀ x ∈ l, 0 ≤ x ∧ x ≤ 255) :
    Calls Try.prog 8 #[.slice A l.length c] w fun e w' => e = .returned (.bool true) ∧ Below w.heap.size w w' := by
  have HB := Lib.hid hb
  clear hb
  by_cases hsz : (1048576 : Int) < l.length
  · unfold maxLen at hm
    go_enter Try.func8, Try.ntmps8
    go_wp2
    go_ret
    exact ⟨rfl, (by repeat (first | with_reducible exact Below.refl _ _ | with_reducible assumption | with_reducible refine below_drewN ?_ _ | with_reducible refine Below.drew ?_ | with_reducible refine Below.alloc ?_ ?_ _ | with_reducible refine Below.setCell ?_ ?_ _ | (with_reducible refine Below.next ?_ (by assumption)) | omega | (focus (simp; omega)) | (focus (simp; done))))⟩
  · go_enter Try.func8, Try.ntmps8
    go_wp2_with fail
    refine (drawGr_any A c l _ hl hm hr HB.out).mono ?_
    rintro e w1 ⟨A1, c1, g1, d, cost, rate, most, rfl, hg1, row1, hd, cs0, cs1, rt0, rt1, mo0, mo1, hb1⟩
    have hz1 := hb1.size
    have HB1 := Lib.hid hb1
    have hd15 : (d.length : Int) ≤ 15 := by omega
    have HST := Lib.hid (fun n (hn : n ≤ 15) => steady_take n hn rate most rt0 rt1 mo0 mo1)
    clear row1 hb1
    go_wp2
    go_loopw [7, 8] (fun o i wr => ∃ k : Nat, k ≤ d.length ∧ i = .int .i64 k ∧ Below w.heap.size w wr ∧ w1.heap.size ≤ wr.heap.size ∧ ∃ A2 c2 g2, ∃ lk : List Int, o = .slice A2 lk.length c2 ∧ Hid (lk = steadyL k) ∧ (lk.length ≤ k ∧ k ≤ lk.length) ∧ w1.heap.size ≤ g2 ∧ Row eInt wr g2 3 A2 c2 lk) (fun _ i _ => d.length - (intOf i).toNat)
    case atStart => exact ⟨0, Nat.zero_le _, rfl, (by repeat (first | with_reducible exact HB1.out | with_reducible exact Below.refl _ _ | with_reducible refine below_drewN ?_ _ | with_reducible refine Below.drew ?_ | with_reducible refine Below.alloc ?_ ?_ _ | with_reducible refine Below.setCell ?_ ?_ _ | (with_reducible refine Below.next ?_ (by assumption)) | ((with_reducible refine Below.far' (by assumption) ?_ ?_ ?_); (focus (first | omega | (simp; omega) | (simp; done))); (focus (first | omega | (simp; omega) | (simp; done)))) | omega | (focus (simp; omega)) | (focus (simp; done)))), by simp, _, _, w1.heap.size, [], rfl, Lib.hid (by simp [steadyL]), by simp, Nat.le_refl _, Row.made0 rfl⟩
    case round =>
      obtain ⟨k, hk, rfl, hbw, hzr, A2, c2, g2, lk, rfl, HLK, ⟨hlk1, hlk2⟩, hg2, row2⟩ := hrel
      have HROW2 := Lib.hid row2
      have HBW := Lib.hid hbw
      clear row2 hbw
      by_cases hlt : k < d.length
      · go_wp2_with (at_builtin; refine wpList_append_row (E := eInt) (A := A2) (c := c2) (g := g2) (l := lk) rfl _ _ rfl el_int rfl ?_ _ _ [(k : Int)] rfl ?_ (by simp only [maxLen, List.length_cons, List.length_nil]; omega) (by simp only [List.length_cons, List.length_nil]; omega) ?_; (focus (exact (by repeat (first | with_reducible exact HROW2.out | with_reducible refine Row.drew ?_ | with_reducible refine Row.drewN ?_ _ | with_reducible refine Row.alloc ?_ _ | (with_reducible refine Row.below ?_ (by assumption)) | ((with_reducible refine Row.other ?_ ?_ _); rotate_left; (focus (first | omega | (simp; omega) | (simp; done)))) | ((with_reducible refine Row.far' (by assumption) ?_ ?_); (focus (first | omega | (simp; omega) | (simp; done)))))))); (focus (exact (by repeat (first | ((with_reducible refine Rd.lit ?_ ?_); (focus (first | with_reducible rfl | omega | (simp; omega) | (simp; done))); (focus (first | rfl | (simp; rfl) | (simp; done)))) | with_reducible refine Rd.drew ?_ | with_reducible refine Rd.drewN ?_ _ | with_reducible refine Rd.alloc ?_ _ | (with_reducible refine Rd.below ?_ (by assumption)))))); intro A3 c3 g3 w3 l3 hl3 hle1 hle2 hrow3 hg3 hgg3)
        go_roundw
        case rel =>
          simp only [List.length_cons, List.length_nil] at hle1 hle2
          have hz3 := hg3.size
          simp at hz3 hgg3
          exact ⟨k + 1, by omega, by go_num, (by repeat (first | with_reducible exact HBW.out | with_reducible exact Below.refl _ _ | with_reducible refine below_drewN ?_ _ | with_reducible refine Below.drew ?_ | with_reducible refine Below.alloc ?_ ?_ _ | with_reducible refine Below.setCell ?_ ?_ _ | (with_reducible refine Below.next ?_ (by assumption)) | ((with_reducible refine Below.far' (by assumption) ?_ ?_ ?_); (focus (first | omega | (simp; omega) | (simp; done))); (focus (first | omega | (simp; omega) | (simp; done)))) | omega | (focus (simp; omega)) | (focus (simp; done)))), by omega, A3, c3, g3, l3, rfl, Lib.hid (by rw [hl3.out, HLK.out, steadyL_succ]), ⟨by omega, by omega⟩, by omega, hrow3⟩
        case measure => simp [intOf]; omega
      · have hke : k = d.length := by omega
        have HG : Hid (grantB lk rate rate most = List.replicate lk.length (decide (rate ≤ most))) := Lib.hid (by
          have e : lk.length = k := by omega
          rw [e, HLK.out]
          exact HST.out k (by omega))
        obtain ⟨b, hbe⟩ : ∃ b, b = decide (rate ≤ most) := ⟨_, rfl⟩
        obtain ⟨o, hoe⟩ : ∃ o, o = grantB lk rate rate most := ⟨_, rfl⟩
        have HOE := Lib.hid hoe
        rw [← hbe, ← hoe] at HG
        have HOB : Hid (∀ j (hj : j < o.length), o[j] = b) := Lib.hid fun j hj => by simp only [HG.out]; simp
        have HOL : Hid (o.length = lk.length) := Lib.hid (by rw [HG.out]; simp)
        have hol1 : o.length ≤ lk.length := by rw [HOL.out]; exact Nat.le_refl _
        have hbe' := hbe.symm
        clear hoe hke HST HLK HG hbe
        obtain ⟨wa, hwa⟩ : ∃ x, x = wr := ⟨_, rfl⟩
        subst hwa
        go_wp2_with fail
        refine (implGrant_c A2 c2 lk rate rate most _ HROW2.out.rd (by omega)).mono ?_
        rw [← HOE.out]
        rintro e w2 ⟨u2, rfl, ⟨A4, c4, g4, rfl, row4, -⟩, hb4⟩
        have HR2 := Lib.hid (Rd.below HROW2.out.rd hb4)
        have HO1 := Lib.hid row4.rd
        have HB2 : Hid (Below w.heap.size w w2) := Lib.hid (Below.next (W := w) HBW.out hb4)
        clear row4 hb4
        go_wp2_with fail
        refine (specGrant_c A2 c2 lk rate rate most _ HR2.out (by omega)).mono ?_
        rw [← HOE.out]
        rintro e w3 ⟨u3, rfl, ⟨A5, c5, g5, rfl, row5, -⟩, hb5⟩
        have HO13 := Lib.hid (Rd.below HO1.out hb5)
        have HO2 := Lib.hid row5.rd
        have HB3 : Hid (Below w.heap.size w w3) := Lib.hid (Below.next (W := w) HB2.out hb5)
        clear row5 hb5 HO1 HB2 HR2 HBW
        go_wp2
        go_loopw [11] (fun i wr => ∃ j : Nat, j ≤ o.length ∧ i = .int .i64 j ∧ ∃ q, wr = w3.drewN q) (fun i _ => o.length - (intOf i).toNat)
        case atStart => exact ⟨0, Nat.zero_le _, rfl, 0, rfl⟩
        case round =>
          obtain ⟨j, hj, rfl, q, rfl⟩ := hrel
          by_cases hjl : j < o.length
          · obtain ⟨b1, o1, rfl, hbl1, hx0⟩ := HO13.out.bools (by omega)
            obtain ⟨b2, o2, rfl, hbl2, hy0⟩ := HO2.out.bools (by omega)
            have hx := hx0 j hjl
            have hy := hy0 j hjl
            rw [HOB.out j hjl] at hx hy
            clear hx0 hy0
            cases b
            · go_wp2
              go_quiet (fail)
              go_wp2
              go_roundw
              case rel => exact ⟨j + 1, by omega, by go_num, _, rfl⟩
              case measure => simp [intOf]; omega
            · go_wp2
              go_quiet (fail)
              go_wp2
              go_roundw
              case rel => exact ⟨j + 1, by omega, by go_num, _, rfl⟩
              case measure => simp [intOf]; omega
          · have HBQ : Hid (Below w.heap.size w (w3.drewN q)) := Lib.hid (below_drewN HB3.out q)
            go_wp2_with (go_at_call 17; refine (alive_any _).mono ?_; rintro e w6 ⟨rfl, hb6⟩)
            go_ret
            exact ⟨rfl, (by repeat (first | with_reducible exact HBQ.out | with_reducible exact Below.refl _ _ | with_reducible refine below_drewN ?_ _ | with_reducible refine Below.drew ?_ | with_reducible refine Below.alloc ?_ ?_ _ | with_reducible refine Below.setCell ?_ ?_ _ | (with_reducible refine Below.next ?_ (by assumption)) | ((with_reducible refine Below.far' (by assumption) ?_ ?_ ?_); (focus (first | omega | (simp; omega) | (simp; done))); (focus (first | omega | (simp; omega) | (simp; done)))) | omega | (focus (simp; omega)) | (focus (simp; done))))⟩
set_option maxRecDepth 100000 in
theorem lifted (os : Os) (started : os.Started) (H : Type) (enc : TypeId × Value → H) :
    ReturnsInHanded {} Try.checked os 8 .any (Rows.fnBucketSteadySpec.pre6 enc Try.prog Try.f8 Rows.fnBucketSteadyRow.domain false) (Rows.fnBucketSteadySpec.post enc Try.prog Try.f8 false true false false) := by
  refine returnsInHanded_of_change (C := Try.checked) own_knob started (by kernel_rfl) Try.func8
    (ChangeSpec.witness6 (enc := enc) (C := Try.checked) false ⟨#[], #[.slice none 0 0], []⟩ 8 (by kernel_rfl) (by kernel_rfl) (by kernel_rfl) (by kernel_rfl)) ?_
  intro W base args ds gs before hval0 hW hcnd _
  have hval : ∀ (j : Nat) t v, Try.f8.params[j]? = some t → args[j]? = some v → Value.okWide Try.prog W .any base t v := hval0
  have hW' := hW
  obtain ⟨p, q, hA0, hV, rfl, hfz, hnd⟩ := hW
  have hA : DataW.TrodAll enc Try.prog W 0 (fun _ => true) true Try.f8.params.toList args.toList ds p := hA0
  rw [Try.params8] at hA hval
  obtain ⟨v0, vs0, d0, ds0, p0, q0, hargs, rfl, rfl, h0, r0⟩ := trodAll_cons hA
  obtain ⟨rfl, rfl, rfl⟩ := trodAll_nil r0
  obtain rfl : args = #[v0] := by cases args; simp_all
  obtain ⟨rfl, rfl⟩ := trodVars_none hV
  have k0 := h0
  have lt0 : ∀ x ∈ p0, x.block < W.heap.size := by obtain ⟨m, hm⟩ := k0; exact DataW.trod_lt m _ _ _ hm
  obtain ⟨A0, c0, l0, rfl, hl0, hm0, rd0, by0⟩ := open_bytes Try.underlying32 Try.underlying5 (by kernel_rfl) (hval 0 32 v0 rfl rfl) h0
  clear hA0 hval0
  refine (walk A0 c0 l0 W hl0 hm0 rd0 by0).mono fun e W' ⟨he, bel⟩ => ?_
  subst he
  exact ⟨_, rfl, _, _, _, [], _, [], hW', trodAll_mk1 (shut_bool Try.underlying4 _), (trodAll_cons_mk (Below.trod laid_out (by kernel_rfl) (of_decide_eq_true (by kernel_rfl)) k0 bel lt0) trodAll_mk0), rfl, bel.frame _, fun h => by cases h⟩
theorem over : Rows.fnBucketSteadyRow.holds Try.pinned (OpenSpec.ofChange Rows.fnBucketSteadySpec) :=
  OpenClaim.holds_of_wide 8 Try.f8 rfl rfl rfl rfl rfl rfl rfl ⟨rfl, rfl, rfl, rfl, rfl⟩ rfl rfl rfl rfl rfl (by kernel_rfl) Try.func8 (by kernel_rfl)
    (of_decide_eq_true (by kernel_rfl)) (by unfold Func.isWrapper; first | (rw [if_pos (by decide +kernel)]; kernel_rfl) | (rw [if_neg (by decide +kernel)]; exact ⟨rfl, rfl⟩))
    (fun os started H enc _ => lifted os started H enc)
theorem proved : Rows.FnBucketSteadySaid := over
end LwBs
end Go.Proofs.Ytmgbenfmhgkogaa
