/-
  FnThinView: sectors without a place are 0; those with a place have its value. No condition.
-/
import Derived.Test.YtkejdgegkbfofaaBase
import Derived.Test.YtkejdgegkbfofaaNum
import Derived.Test.YtkejdgegkbfofaaInts
import Derived.Test.YtkejdgegkbfofaaApp
import Derived.Test.YtkejdgegkbfofaaIntsW
import Derived.Test.YtkejdgegkbfofaaLib
import Derived.Test.YtkejdgegkbfofaaSpares
import Derived.Test.YtkejdgegkbfofaaOwn
import Derived.Test.YtkejdgegkbfofaaThin
import Derived.Test.YtkejdgegkbfofaaThinM
import Derived.Test.YtkejdgegkbfofaaThinC
import Derived.Test.YtkejdgegkbfofaaThinW
import Derived.Test.YtkejdgegkbfofaaThinF
import Derived.Test.YtkejdgegkbfofaaThinX
import Derived.Test.YtkejdgegkbfofaaThinY
import Derived.Test.YtkejdgegkbfofaaThinP
import Derived.Test.YtkejdgegkbfofaaThinV
import Derived.Test.YtkejdgegkbfofaaThinTr
import Derived.Test.YtkejdgegkbfofaaDraw
import Derived.Test.YtkejdgegkbfofaaDrawK
import Derived.Test.YtkejdgegkbfofaaDrawD
import Derived.Test.YtkejdgegkbfofaaKept
import Derived.Test.YtkejdgegkbfofaaDrawTh
import Derived.Test.YtkejdgegkbfofaaDrawThx
import Derived.Test.YtkejdgegkbfofaaOpen
import Derived.IntWalk
namespace Go.Proofs.Ytkejdgegkbfofaa
open Go.RowKit Go.ChangeShapes Go.WideShapes Go.ChangeAt Go.Deep Go.Joins
theorem thinV_len (t : Th) : (thinV t).length ≤ t.whr.length := by
  unfold thinV; split
  · rw [viewT_len]; exact Nat.le_refl _
  · simp
theorem thinV_at {t : Th} {k : Nat} (hk : k < (thinV t).length) : thinB t = true ∧ (thinV t).length = t.whr.length ∧ ∃ h : k < t.whr.length, (thinV t)[k] = seeT t.pool (t.whr[k]'h) := by
  cases hv : thinB t
  · rw [thinV_no hv] at hk; simp at hk
  · have e := thinV_yes hv
    have hl : (thinV t).length = t.whr.length := by rw [e, viewT_len]
    refine ⟨rfl, hl, by omega, ?_⟩
    have key : ∀ (l : List Int) (h : k < l.length), l = viewT t → l[k] = seeT t.pool (t.whr[k]'(by omega)) := by
      intro l h he
      subst he
      rw [viewT_get (by omega)]
    exact key _ hk e
namespace LwTv
set_option maxHeartbeats 8000000 in
theorem walk (A : Option Addr) (c : Nat) (l : List Int) (w : World) (hl : l.length ≤ c) (hm : c ≤ maxLen) (hr : Rd eByte w A l) (hb : ∀ x ∈ l, 0 ≤ x ∧ x ≤ 255) :
    Calls Try.prog 4 #[.slice A l.length c] w fun e w' => e = .returned (.bool true) ∧ Below w.heap.size w w' := by
  have HB := Lib.hid hb
  clear hb
  by_cases hsz : (1048576 : Int) < l.length
  · unfold maxLen at hm
    go_enter Try.func4, Try.ntmps4
    go_wp2
    go_ret
    exact ⟨rfl, (by repeat (first | with_reducible exact Below.refl _ _ | with_reducible assumption | with_reducible refine below_drewN ?_ _ | with_reducible refine Below.drew ?_ | with_reducible refine Below.alloc ?_ ?_ _ | with_reducible refine Below.setCell ?_ ?_ _ | (with_reducible refine Below.next ?_ (by assumption)) | omega | (focus (simp; omega)) | (focus (simp; done))))⟩
  go_enter Try.func4, Try.ntmps4
  go_wp2_with fail
  refine (drawTv_any A c l _ hl hm hr HB.out).mono ?_
  rintro e w1 ⟨y0, y1, t, rfl, hrd1, hts, hb1⟩
  obtain ⟨A0, c0, A1, c1, rfl, rfl⟩ := thinRd_lens hrd1
  have hz1 := hb1.size
  have HB1 := Lib.hid hb1
  have HT1 := Lib.hid hrd1
  have htsz : Hid (sizeThin t ≤ 1099511627776) := Lib.hid (by omega)
  have hwl : t.whr.length ≤ 60 := by unfold sizeThin at hts; omega
  have hpl : t.pool.length ≤ 60 := by unfold sizeThin at hts; omega
  have LS := Loc.newAt w1 [.slice A0 t.whr.length c0, .slice A1 t.pool.length c1] 26 (b := w1.heap.size) rfl
  clear hb1 hrd1 hsz hts
  obtain ⟨v, hv⟩ : ∃ v, v = thinV t := ⟨_, rfl⟩
  have HV := Lib.hid hv
  have hvl : v.length ≤ t.whr.length := by rw [hv]; exact thinV_len t
  clear hv
  go_wp2_with fail
  refine (implTView_c _ _ t _ (ThinRd.below HT1.out (by repeat (first | with_reducible exact Below.refl _ _ | with_reducible refine below_drewN ?_ _ | with_reducible refine Below.drew ?_ | with_reducible refine Below.alloc ?_ ?_ _ | with_reducible refine Below.setCell ?_ ?_ _ | omega | (focus (simp; omega)) | (focus (simp; done))))) htsz.out).mono ?_
  rw [← HV.out]
  rintro e w2 ⟨v2, rfl, o2, hb2⟩
  obtain ⟨A2, c2, gg2, rfl, -, -⟩ := id o2
  replace LS := Loc.carryB LS (fun h => by ((repeat (first | with_reducible exact h | with_reducible refine Loc.drew ?_ | with_reducible refine Loc.drewN ?_ _ | with_reducible refine Loc.alloc ?_ _)); done)) hb2
  (try clear s0 s1 sf)
  obtain ⟨s0, s1, sf⟩ := LS.two
  have zS2 := LS.lt
  have HB2 : Hid (Below w.heap.size w w2) := Lib.hid (Below.next (W := w) (by repeat (first | with_reducible exact HB1.out | with_reducible exact Below.refl _ _ | with_reducible refine below_drewN ?_ _ | with_reducible refine Below.drew ?_ | with_reducible refine Below.alloc ?_ ?_ _ | with_reducible refine Below.setCell ?_ ?_ _ | (with_reducible refine Below.next ?_ (by assumption)) | ((with_reducible refine Below.far' (by assumption) ?_ ?_ ?_); (focus (first | omega | (simp; omega) | (simp; done))); (focus (first | omega | (simp; omega) | (simp; done)))) | omega | (focus (simp; omega)) | (focus (simp; done)))) hb2)
  have HT2 := Lib.hid (ThinRd.below HT1.out (Below.next (by repeat (first | with_reducible exact Below.refl _ _ | with_reducible refine below_drewN ?_ _ | with_reducible refine Below.drew ?_ | with_reducible refine Below.alloc ?_ ?_ _ | with_reducible refine Below.setCell ?_ ?_ _ | omega | (focus (simp; omega)) | (focus (simp; done)))) hb2))
  have hz2 := hb2.size
  (try simp at hz2)
  clear hb2
  have HV2 := Lib.hid (SOwn.rd o2)
  clear o2
  go_wp2_with fail
  refine (specTView_c _ _ t _ (ThinRd.below HT2.out (by repeat (first | with_reducible exact Below.refl _ _ | with_reducible refine below_drewN ?_ _ | with_reducible refine Below.drew ?_ | with_reducible refine Below.alloc ?_ ?_ _ | with_reducible refine Below.setCell ?_ ?_ _ | omega | (focus (simp; omega)) | (focus (simp; done))))) htsz.out).mono ?_
  rw [← HV.out]
  rintro e w3 ⟨v3, rfl, o3, hb3⟩
  obtain ⟨A3, c3, gg3, rfl, -, -⟩ := id o3
  have HV23 := Lib.hid (SRd.below HV2.out (Below.next (by repeat (first | with_reducible exact Below.refl _ _ | with_reducible refine below_drewN ?_ _ | with_reducible refine Below.drew ?_ | with_reducible refine Below.alloc ?_ ?_ _ | with_reducible refine Below.setCell ?_ ?_ _ | omega | (focus (simp; omega)) | (focus (simp; done)))) hb3))
  replace LS := Loc.carryB LS (fun h => by ((repeat (first | with_reducible exact h | with_reducible refine Loc.drew ?_ | with_reducible refine Loc.drewN ?_ _ | with_reducible refine Loc.alloc ?_ _)); done)) hb3
  (try clear s0 s1 sf)
  obtain ⟨s0, s1, sf⟩ := LS.two
  have zS3 := LS.lt
  have HB3 : Hid (Below w.heap.size w w3) := Lib.hid (Below.next (W := w) (by repeat (first | with_reducible exact HB2.out | with_reducible exact Below.refl _ _ | with_reducible refine below_drewN ?_ _ | with_reducible refine Below.drew ?_ | with_reducible refine Below.alloc ?_ ?_ _ | with_reducible refine Below.setCell ?_ ?_ _ | (with_reducible refine Below.next ?_ (by assumption)) | ((with_reducible refine Below.far' (by assumption) ?_ ?_ ?_); (focus (first | omega | (simp; omega) | (simp; done))); (focus (first | omega | (simp; omega) | (simp; done)))) | omega | (focus (simp; omega)) | (focus (simp; done)))) hb3)
  have HT3 := Lib.hid (ThinRd.below HT2.out (Below.next (by repeat (first | with_reducible exact Below.refl _ _ | with_reducible refine below_drewN ?_ _ | with_reducible refine Below.drew ?_ | with_reducible refine Below.alloc ?_ ?_ _ | with_reducible refine Below.setCell ?_ ?_ _ | omega | (focus (simp; omega)) | (focus (simp; done)))) hb3))
  have hz3 := hb3.size
  (try simp at hz3)
  clear hb3
  have H3 := Lib.hid (SOwn.rd o3)
  clear o3
  go_wp2_with fail
  refine (sameInts_v (.slice A2 v.length c2) (.slice A3 v.length c3) v v _ HV23.out H3.out (by omega) (by omega)).mono ?_
  rw [dec_reflT]
  rintro e w4 ⟨rfl, q4, rfl⟩
  go_wp2
  go_loopw [5] (fun i wr => ∃ k : Nat, k ≤ v.length ∧ i = .int .i64 k ∧ ∃ q, wr = w3.drewN q) (fun i _ => v.length - (intOf i).toNat)
  case atStart => exact ⟨0, Nat.zero_le _, rfl, q4, rfl⟩
  case round =>
    obtain ⟨k, hk, rfl, q, rfl⟩ := hrel
    by_cases hlt : k < v.length
    · obtain ⟨hB, hvw, hlt', hval⟩ := thinV_at (t := t) (k := k) (by rw [← HV.out]; exact hlt)
      have hval2 : v[k] = seeT t.pool (t.whr[k]'hlt') := by rw [← hval]; congr 1
      have hrg := (thin_iff.1 hB).rng _ (List.getElem_mem hlt')
      obtain ⟨b, off, rfl, hbl, hcx⟩ := (ThinRd.whr HT3.out).int hlt'
      have hcell : ∃ b off, A2 = some ⟨b, off, none⟩ ∧ b < w3.heap.size ∧ w3.cell? ⟨b, off + k, none⟩ = some (.int .i64 (v[k]'hlt)) := by
        obtain ⟨A', c', he, hr', _⟩ := HV23.out
        cases he
        exact Rd.int hr' hlt
      obtain ⟨b2, off2, rfl, hbl2, hcv⟩ := hcell
      obtain ⟨x, hx⟩ : ∃ x, x = t.whr[k]'hlt' := ⟨_, rfl⟩
      rw [hval2] at hcv
      rw [← hx] at hcx hcv hrg
      obtain ⟨hx0, hx1⟩ := hrg
      clear hB hvw hval hval2 hx
      by_cases hneg : x < 0
      · rw [seeT_neg hneg] at hcv
        have hge : (0 ≤ x) = False := by simp; omega
        go_wp2
        go_quiet (fail)
        go_wp2
        go_roundw
        case rel => exact ⟨k + 1, by omega, by go_num, _, rfl⟩
        case measure => simp [intOf]; omega
      · obtain ⟨j, rfl⟩ := Int.eq_ofNat_of_zero_le (Int.not_lt.1 hneg)
        have hjc : j < t.pool.length := by omega
        obtain ⟨b3, off3, rfl, hbl3, hcp⟩ := (ThinRd.pool HT3.out).int hjc
        rw [seeT_pos hjc] at hcv
        obtain ⟨vv, hvv⟩ : ∃ vv, vv = t.pool[j]'hjc := ⟨_, rfl⟩
        rw [← hvv] at hcv hcp
        clear hvv
        have hnn : ((j : Int) < 0) = False := by simp
        go_wp2
        go_quiet (fail)
        go_wp2
        go_roundw
        case rel => exact ⟨k + 1, by omega, by go_num, _, rfl⟩
        case measure => simp [intOf]; omega
    · cases hB : thinB t
      · have HBB := Lib.hid hB
        have hv0 : v = [] := by rw [HV.out, thinV_no hB]
        subst hv0
        clear hB
        by_cases hw0 : t.whr.length = 0
        · have he : ((0 : Int) == (t.whr.length : Int)) = true := by simp [hw0]
          clear hw0
          go_wp2_with (go_at_call 19; refine (alive_any _).mono ?_; rintro e w6 ⟨rfl, hb6⟩)
          go_ret
          exact ⟨rfl, Below.next (W := w) (by repeat (first | with_reducible exact HB3.out | with_reducible exact Below.refl _ _ | with_reducible refine below_drewN ?_ _ | with_reducible refine Below.drew ?_ | with_reducible refine Below.alloc ?_ ?_ _ | with_reducible refine Below.setCell ?_ ?_ _ | (with_reducible refine Below.next ?_ (by assumption)) | ((with_reducible refine Below.far' (by assumption) ?_ ?_ ?_); (focus (first | omega | (simp; omega) | (simp; done))); (focus (first | omega | (simp; omega) | (simp; done)))) | omega | (focus (simp; omega)) | (focus (simp; done)))) hb6⟩
        · have he : ((0 : Int) == (t.whr.length : Int)) = false := by rw [beq_eq_false_iff_ne]; omega
          go_wp2_with fail
          refine (implThin_c _ _ t _ (ThinRd.below HT3.out (by repeat (first | with_reducible exact Below.refl _ _ | with_reducible refine below_drewN ?_ _ | with_reducible refine Below.drew ?_ | with_reducible refine Below.alloc ?_ ?_ _ | with_reducible refine Below.setCell ?_ ?_ _ | omega | (focus (simp; omega)) | (focus (simp; done))))) htsz.out).mono ?_
          rw [HBB.out]
          rintro e w5 ⟨rfl, hb5⟩
          go_wp2_with (go_at_call 19; refine (alive_any _).mono ?_; rintro e w6 ⟨rfl, hb6⟩)
          go_ret
          exact ⟨rfl, Below.next (W := w) (Below.next (W := w) (by repeat (first | with_reducible exact HB3.out | with_reducible exact Below.refl _ _ | with_reducible refine below_drewN ?_ _ | with_reducible refine Below.drew ?_ | with_reducible refine Below.alloc ?_ ?_ _ | with_reducible refine Below.setCell ?_ ?_ _ | (with_reducible refine Below.next ?_ (by assumption)) | ((with_reducible refine Below.far' (by assumption) ?_ ?_ ?_); (focus (first | omega | (simp; omega) | (simp; done))); (focus (first | omega | (simp; omega) | (simp; done)))) | omega | (focus (simp; omega)) | (focus (simp; done)))) hb5) hb6⟩
      · have hle : v.length = t.whr.length := by rw [HV.out, thinV_yes hB, viewT_len]
        have he : ((v.length : Int) == (t.whr.length : Int)) = true := by simp [hle]
        clear hle hB
        go_wp2_with (go_at_call 19; refine (alive_any _).mono ?_; rintro e w6 ⟨rfl, hb6⟩)
        go_ret
        exact ⟨rfl, Below.next (W := w) (by repeat (first | with_reducible exact HB3.out | with_reducible exact Below.refl _ _ | with_reducible refine below_drewN ?_ _ | with_reducible refine Below.drew ?_ | with_reducible refine Below.alloc ?_ ?_ _ | with_reducible refine Below.setCell ?_ ?_ _ | (with_reducible refine Below.next ?_ (by assumption)) | ((with_reducible refine Below.far' (by assumption) ?_ ?_ ?_); (focus (first | omega | (simp; omega) | (simp; done))); (focus (first | omega | (simp; omega) | (simp; done)))) | omega | (focus (simp; omega)) | (focus (simp; done)))) hb6⟩
set_option maxRecDepth 100000 in
theorem lifted (os : Os) (started : os.Started) (H : Type) (enc : TypeId × Value → H) :
    ReturnsInHanded {} Try.checked os 4 .any (Rows.fnThinViewSpec.pre6 enc Try.prog Try.f4 Rows.fnThinViewRow.domain false) (Rows.fnThinViewSpec.post enc Try.prog Try.f4 false true false false) := by
  refine returnsInHanded_of_change (C := Try.checked) own_knob started (by kernel_rfl) Try.func4
    (ChangeSpec.witness6 (enc := enc) (C := Try.checked) false ⟨#[], #[.slice none 0 0], []⟩ 8 (by kernel_rfl) (by kernel_rfl) (by kernel_rfl) (by kernel_rfl)) ?_
  intro W base args ds gs before hval0 hW hcnd _
  have hval : ∀ (j : Nat) t v, Try.f4.params[j]? = some t → args[j]? = some v → Value.okWide Try.prog W .any base t v := hval0
  have hW' := hW
  obtain ⟨p, q, hA0, hV, rfl, hfz, hnd⟩ := hW
  have hA : DataW.TrodAll enc Try.prog W 0 (fun _ => true) true Try.f4.params.toList args.toList ds p := hA0
  rw [Try.params4] at hA hval
  obtain ⟨v0, vs0, d0, ds0, p0, q0, hargs, rfl, rfl, h0, r0⟩ := trodAll_cons hA
  obtain ⟨rfl, rfl, rfl⟩ := trodAll_nil r0
  obtain rfl : args = #[v0] := by cases args; simp_all
  obtain ⟨rfl, rfl⟩ := trodVars_none hV
  have k0 := h0
  have lt0 : ∀ x ∈ p0, x.block < W.heap.size := by obtain ⟨m, hm⟩ := k0; exact DataW.trod_lt m _ _ _ hm
  obtain ⟨A0, c0, l0, rfl, hl0, hm0, rd0, by0⟩ := open_bytes Try.underlying33 Try.underlying5 (by kernel_rfl) (hval 0 33 v0 rfl rfl) h0
  clear hA0 hval0
  refine (walk A0 c0 l0 W hl0 hm0 rd0 by0).mono fun e W' ⟨he, bel⟩ => ?_
  subst he
  exact ⟨_, rfl, _, _, _, [], _, [], hW', trodAll_mk1 (shut_bool Try.underlying4 _), (trodAll_cons_mk (Below.trod laid_out (by kernel_rfl) (of_decide_eq_true (by kernel_rfl)) k0 bel lt0) trodAll_mk0), rfl, bel.frame _, fun h => by cases h⟩
theorem over : Rows.fnThinViewRow.holds Try.pinned (OpenSpec.ofChange Rows.fnThinViewSpec) :=
  OpenClaim.holds_of_wide 4 Try.f4 rfl rfl rfl rfl rfl rfl rfl ⟨rfl, rfl, rfl, rfl, rfl⟩ rfl rfl rfl rfl rfl (by kernel_rfl) Try.func4 (by kernel_rfl)
    (of_decide_eq_true (by kernel_rfl)) (by unfold Func.isWrapper; first | (rw [if_pos (by decide +kernel)]; kernel_rfl) | (rw [if_neg (by decide +kernel)]; exact ⟨rfl, rfl⟩))
    (fun os started H enc _ => lifted os started H enc)
theorem proved : Rows.FnThinViewSaid := over
end LwTv
end Go.Proofs.Ytkejdgegkbfofaa
