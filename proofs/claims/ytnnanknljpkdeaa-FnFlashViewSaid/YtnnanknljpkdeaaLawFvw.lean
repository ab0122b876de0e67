/-
  FnFlashView: there are BlockPages fewer values than pages; every value that is not 0 is that of a page that belongs to the logical page. No condition.
-/
import Derived.Test.YtnnanknljpkdeaaBase
import Derived.Test.YtnnanknljpkdeaaNum
import Derived.Test.YtnnanknljpkdeaaInts
import Derived.Test.YtnnanknljpkdeaaApp
import Derived.Test.YtnnanknljpkdeaaIntsW
import Derived.Test.YtnnanknljpkdeaaLib
import Derived.Test.YtnnanknljpkdeaaSpares
import Derived.Test.YtnnanknljpkdeaaOwn
import Derived.Test.YtnnanknljpkdeaaPage
import Derived.Test.YtnnanknljpkdeaaFlash
import Derived.Test.YtnnanknljpkdeaaFlashM
import Derived.Test.YtnnanknljpkdeaaFlashC
import Derived.Test.YtnnanknljpkdeaaFlashD
import Derived.Test.YtnnanknljpkdeaaFlashV
import Derived.Test.YtnnanknljpkdeaaThinC
import Derived.Test.YtnnanknljpkdeaaFlashW
import Derived.Test.YtnnanknljpkdeaaFlashN
import Derived.Test.YtnnanknljpkdeaaFlashX
import Derived.Test.YtnnanknljpkdeaaFlashY
import Derived.Test.YtnnanknljpkdeaaFlashZ
import Derived.Test.YtnnanknljpkdeaaFlashCB
import Derived.Test.YtnnanknljpkdeaaFlashWB
import Derived.Test.YtnnanknljpkdeaaFlashP
import Derived.Test.YtnnanknljpkdeaaFlashQ
import Derived.Test.YtnnanknljpkdeaaDraw
import Derived.Test.YtnnanknljpkdeaaDrawK
import Derived.Test.YtnnanknljpkdeaaDrawD
import Derived.Test.YtnnanknljpkdeaaNewP
import Derived.Test.YtnnanknljpkdeaaKept
import Derived.Test.YtnnanknljpkdeaaDrawFl
import Derived.Test.YtnnanknljpkdeaaDrawFx
import Derived.Test.YtnnanknljpkdeaaSameF
import Derived.Test.YtnnanknljpkdeaaOpen
import Derived.IntWalk
namespace Go.Proofs.Ytnnanknljpkdeaa
open Go.RowKit Go.ChangeShapes Go.WideShapes Go.ChangeAt Go.Deep Go.Joins
namespace LwFvw
set_option maxHeartbeats 8000000 in
theorem walk (A : Option Addr) (c : Nat) (l : List Int) (w : World) (hl : l.length ≤ c) (hm : c ≤ maxLen) (hr : Rd eByte w A l) (hb : ∀ x ∈ l, 0 ≤ x ∧ x ≤ 255) :
    Calls Try.prog 9 #[.slice A l.length c] w fun e w' => e = .returned (.bool true) ∧ Below w.heap.size w w' := by
  have HB := Lib.hid hb
  clear hb
  by_cases hsz : (1048576 : Int) < l.length
  · unfold maxLen at hm
    go_enter Try.func9, Try.ntmps9
    go_wp2
    go_ret
    exact ⟨rfl, (by repeat (first | with_reducible exact Below.refl _ _ | with_reducible assumption | with_reducible refine below_drewN ?_ _ | with_reducible refine Below.drew ?_ | with_reducible refine Below.alloc ?_ ?_ _ | with_reducible refine Below.setCell ?_ ?_ _ | (with_reducible refine Below.next ?_ (by assumption)) | omega | (focus (simp; omega)) | (focus (simp; done))))⟩
  go_enter Try.func9, Try.ntmps9
  go_wp2_with fail
  refine (drawFview_any A c l _ hl hm hr HB.out).mono ?_
  rintro e w1 ⟨y0, y1, f, rfl, hrd1, ⟨hfp, hfe⟩, hsm, hb1⟩
  obtain ⟨A0, c0, A1, c1, rfl, rfl⟩ := flashRd_lens hrd1
  have HSM := Lib.hid hsm
  have hz1 := hb1.size
  have HB1 := Lib.hid hb1
  have HF1 := Lib.hid hrd1
  have hszs : Hid (sizeFlash f ≤ 1099511627776) := Lib.hid (by unfold sizeFlash; omega)
  have LS := Loc.newAt w1 [.slice A0 f.pages.length c0, .slice A1 f.erases.length c1] 30 (b := w1.heap.size) rfl
  clear hb1 hrd1 hsm hsz
  obtain ⟨v, hv⟩ : ∃ v, v = viewF f := ⟨_, rfl⟩
  have HV := Lib.hid hv
  have hvl : v.length ≤ 20 := by
    rw [hv]
    cases hB : flashB f
    · rw [viewF_no hB]; simp
    · rw [viewF_yes hB, viewL_length]; omega
  clear hv
  go_wp2_with fail
  refine (implView_c _ _ f _ (FlashRd.below HF1.out (by repeat (first | with_reducible exact Below.refl _ _ | with_reducible refine below_drewN ?_ _ | with_reducible refine Below.drew ?_ | with_reducible refine Below.alloc ?_ ?_ _ | with_reducible refine Below.setCell ?_ ?_ _ | omega | (focus (simp; omega)) | (focus (simp; done))))) hszs.out).mono ?_
  rw [← HV.out]
  rintro e w2 ⟨v2, rfl, o2, hb2⟩
  obtain ⟨A2, c2, gg2, rfl, -, -⟩ := id o2
  replace LS := Loc.carryB LS (fun h => by ((repeat (first | with_reducible exact h | with_reducible refine Loc.drew ?_ | with_reducible refine Loc.drewN ?_ _ | with_reducible refine Loc.alloc ?_ _)); done)) hb2
  (try clear s0 s1 sf)
  obtain ⟨s0, s1, sf⟩ := LS.two
  have zS2 := LS.lt
  have HB2 : Hid (Below w.heap.size w w2) := Lib.hid (Below.next (W := w) (by repeat (first | with_reducible exact HB1.out | with_reducible exact Below.refl _ _ | with_reducible refine below_drewN ?_ _ | with_reducible refine Below.drew ?_ | with_reducible refine Below.alloc ?_ ?_ _ | with_reducible refine Below.setCell ?_ ?_ _ | (with_reducible refine Below.next ?_ (by assumption)) | ((with_reducible refine Below.far' (by assumption) ?_ ?_ ?_); (focus (first | omega | (simp; omega) | (simp; done))); (focus (first | omega | (simp; omega) | (simp; done)))) | omega | (focus (simp; omega)) | (focus (simp; done)))) hb2)
  have HF2 := Lib.hid (FlashRd.below HF1.out (Below.next (by repeat (first | with_reducible exact Below.refl _ _ | with_reducible refine below_drewN ?_ _ | with_reducible refine Below.drew ?_ | with_reducible refine Below.alloc ?_ ?_ _ | with_reducible refine Below.setCell ?_ ?_ _ | omega | (focus (simp; omega)) | (focus (simp; done)))) hb2))
  have hz2 := hb2.size
  (try simp at hz2)
  clear hb2
  have HV2 := Lib.hid (SOwn.rd o2)
  clear o2
  go_wp2_with fail
  refine (specView_c _ _ f _ (FlashRd.below HF2.out (by repeat (first | with_reducible exact Below.refl _ _ | with_reducible refine below_drewN ?_ _ | with_reducible refine Below.drew ?_ | with_reducible refine Below.alloc ?_ ?_ _ | with_reducible refine Below.setCell ?_ ?_ _ | omega | (focus (simp; omega)) | (focus (simp; done))))) hszs.out).mono ?_
  rw [← HV.out]
  rintro e w3 ⟨v3, rfl, o3, hb3⟩
  obtain ⟨A3, c3, gg3, rfl, -, -⟩ := id o3
  have HV23 := Lib.hid (SRd.below HV2.out (Below.next (by repeat (first | with_reducible exact Below.refl _ _ | with_reducible refine below_drewN ?_ _ | with_reducible refine Below.drew ?_ | with_reducible refine Below.alloc ?_ ?_ _ | with_reducible refine Below.setCell ?_ ?_ _ | omega | (focus (simp; omega)) | (focus (simp; done)))) hb3))
  replace LS := Loc.carryB LS (fun h => by ((repeat (first | with_reducible exact h | with_reducible refine Loc.drew ?_ | with_reducible refine Loc.drewN ?_ _ | with_reducible refine Loc.alloc ?_ _)); done)) hb3
  (try clear s0 s1 sf)
  obtain ⟨s0, s1, sf⟩ := LS.two
  have zS3 := LS.lt
  have HB3 : Hid (Below w.heap.size w w3) := Lib.hid (Below.next (W := w) (by repeat (first | with_reducible exact HB2.out | with_reducible exact Below.refl _ _ | with_reducible refine below_drewN ?_ _ | with_reducible refine Below.drew ?_ | with_reducible refine Below.alloc ?_ ?_ _ | with_reducible refine Below.setCell ?_ ?_ _ | (with_reducible refine Below.next ?_ (by assumption)) | ((with_reducible refine Below.far' (by assumption) ?_ ?_ ?_); (focus (first | omega | (simp; omega) | (simp; done))); (focus (first | omega | (simp; omega) | (simp; done)))) | omega | (focus (simp; omega)) | (focus (simp; done)))) hb3)
  have HF3 := Lib.hid (FlashRd.below HF2.out (Below.next (by repeat (first | with_reducible exact Below.refl _ _ | with_reducible refine below_drewN ?_ _ | with_reducible refine Below.drew ?_ | with_reducible refine Below.alloc ?_ ?_ _ | with_reducible refine Below.setCell ?_ ?_ _ | omega | (focus (simp; omega)) | (focus (simp; done)))) hb3))
  have hz3 := hb3.size
  (try simp at hz3)
  clear hb3
  have H3 := Lib.hid (SOwn.rd o3)
  clear o3
  go_wp2_with fail
  refine (sameInts_v (.slice A2 v.length c2) (.slice A3 v.length c3) v v _ HV23.out H3.out (by omega) (by omega)).mono ?_
  rw [dec_refl]
  rintro e w4 ⟨rfl, q4, rfl⟩
  cases hB : flashB f
  · have hv0 : v = [] := by rw [HV.out, viewF_no hB]
    subst hv0
    clear hB
    go_wp2_with (go_at_call 28; refine (alive_any _).mono ?_; rintro e w6 ⟨rfl, hb6⟩)
    go_ret
    exact ⟨rfl, Below.next (W := w) (by repeat (first | with_reducible exact HB3.out | with_reducible exact Below.refl _ _ | with_reducible refine below_drewN ?_ _ | with_reducible refine Below.drew ?_ | with_reducible refine Below.alloc ?_ ?_ _ | with_reducible refine Below.setCell ?_ ?_ _ | (with_reducible refine Below.next ?_ (by assumption)) | ((with_reducible refine Below.far' (by assumption) ?_ ?_ ?_); (focus (first | omega | (simp; omega) | (simp; done))); (focus (first | omega | (simp; omega) | (simp; done)))) | omega | (focus (simp; omega)) | (focus (simp; done)))) hb6⟩
  · have ok := flashB_iff.1 hB
    have h2 := ok.n2
    have hln := ok.len
    have hvm : v.length = (f.erases.length - 1) * 4 := by rw [HV.out, viewF_yes hB, viewL_length]
    have hv4 : (v.length : Int) + 4 = (f.pages.length : Int) := by omega
    have hv4' : (((v.length : Int) + 4) == (f.pages.length : Int)) = true := by simp [hv4]
    have hw4 := IntWalk.i64_in ((v.length : Int) + 4) (by omega)
    have hvn : ((v.length : Int) == 0) = false := by rw [beq_eq_false_iff_ne]; omega
    have HVK : Hid (∀ k (h : k < v.length), v[k] = valOf f.pages (k : Int)) := Lib.hid (by
      have key : ∀ (l : List Int) (he : l = viewL f.pages ((f.erases.length - 1) * 4)) k (h : k < l.length), l[k] = valOf f.pages (k : Int) := by
        intro l he k h
        subst he
        rw [viewL_get]
      exact key v (by rw [HV.out, viewF_yes hB]))
    have HLV := Lib.hid ok.one
    have HPG := Lib.hid (FlashRd.pgs HF3.out)
    clear ok h2 hln hvm hv4 hB
    go_wp2
    clear hvn
    go_loopw [5] (fun i wr => ∃ k : Nat, k ≤ v.length ∧ i = .int .i64 k ∧ ∃ q, wr = w3.drewN q) (fun i _ => v.length - (intOf i).toNat)
    case atStart => exact ⟨0, Nat.zero_le _, rfl, q4, rfl⟩
    case round =>
      obtain ⟨k, hk, rfl, q, rfl⟩ := hrel
      by_cases hlt : k < v.length
      · have hcell : ∃ b off, A2 = some ⟨b, off, none⟩ ∧ b < w3.heap.size ∧ w3.cell? ⟨b, off + k, none⟩ = some (.int .i64 (v[k]'hlt)) := by
          obtain ⟨A', c', he, hr', _⟩ := HV23.out
          cases he
          exact Rd.int hr' hlt
        obtain ⟨b2, off2, rfl, hbl2, hcv⟩ := hcell
        obtain ⟨x, hx⟩ : ∃ x, x = v[k]'hlt := ⟨_, rfl⟩
        have HX : Hid (foundTo f.pages k x f.pages.length = true) := Lib.hid (by rw [hx, HVK.out k hlt]; exact foundTo_all HLV.out (by omega))
        have HZ := Lib.hid (foundTo_zero f.pages k x)
        rw [← hx] at hcv
        clear hx
        go_wp2
        go_loopw [6, 7] (fun fb i wr => ∃ j : Nat, j ≤ f.pages.length ∧ i = .int .i64 j ∧ fb = .bool (foundTo f.pages k x j) ∧ ∃ q, wr = w3.drewN q) (fun _ i _ => f.pages.length - (intOf i).toNat)
        case atStart => exact ⟨0, Nat.zero_le _, rfl, by rw [HZ.out], q, rfl⟩
        case round =>
          obtain ⟨j, hj, rfl, rfl, q2, rfl⟩ := hrel
          by_cases hjl : j < f.pages.length
          · obtain ⟨b1, off, rfl, hbl, hc0, hc1⟩ := HPG.out.rPageS hjl
            have HS := Lib.hid (foundTo_succ hjl k x)
            obtain ⟨o, ho⟩ : ∃ o, o = (f.pages[j]'hjl).own := ⟨_, rfl⟩
            obtain ⟨y, hy⟩ : ∃ y, y = (f.pages[j]'hjl).val := ⟨_, rfl⟩
            rw [← ho] at hc0 HS
            rw [← hy] at hc1 HS
            clear ho hy
            obtain ⟨fb, hfb⟩ : ∃ fb, fb = foundTo f.pages k x j := ⟨_, rfl⟩
            rw [← hfb] at HS ⊢
            clear hfb
            cases fb
            · cases hee : (o == (k : Int))
              · have HEE := Lib.hid hee
                go_wp2
                go_quiet (fail)
                go_wp2
                go_roundw
                case rel => exact ⟨j + 1, by omega, by go_num, by rw [HS.out, HEE.out]; rfl, _, rfl⟩
                case measure => simp [intOf]; omega
              · have HEE := Lib.hid hee
                cases hyy : (y == x)
                all_goals
                  have HYY := Lib.hid hyy
                  go_wp2
                  go_quiet (fail)
                  go_wp2
                  go_roundw
                  case rel => exact ⟨j + 1, by omega, by go_num, by rw [HS.out, HEE.out, HYY.out]; rfl, _, rfl⟩
                  case measure => simp [intOf]; omega
            · go_wp2
              go_quiet (fail)
              go_wp2
              go_roundw
              case rel => exact ⟨j + 1, by omega, by go_num, by rw [HS.out]; rfl, _, rfl⟩
              case measure => simp [intOf]; omega
          · have hje : foundTo f.pages k x j = true := by rw [show j = f.pages.length by omega]; exact HX.out
            rw [hje]
            go_wp2
            go_roundw
            case rel => exact ⟨k + 1, by omega, by go_num, _, rfl⟩
            case measure => simp [intOf]; omega
      · go_wp2
        go_ret
        exact ⟨rfl, (by repeat (first | with_reducible exact HB3.out | with_reducible exact Below.refl _ _ | with_reducible refine below_drewN ?_ _ | with_reducible refine Below.drew ?_ | with_reducible refine Below.alloc ?_ ?_ _ | with_reducible refine Below.setCell ?_ ?_ _ | (with_reducible refine Below.next ?_ (by assumption)) | ((with_reducible refine Below.far' (by assumption) ?_ ?_ ?_); (focus (first | omega | (simp; omega) | (simp; done))); (focus (first | omega | (simp; omega) | (simp; done)))) | omega | (focus (simp; omega)) | (focus (simp; done))))⟩
set_option maxRecDepth 100000 in
theorem lifted (os : Os) (started : os.Started) (H : Type) (enc : TypeId × Value → H) :
    ReturnsInHanded {} Try.checked os 9 .any (Rows.fnFlashViewSpec.pre6 enc Try.prog Try.f9 Rows.fnFlashViewRow.domain false) (Rows.fnFlashViewSpec.post enc Try.prog Try.f9 false true false false) := by
  refine returnsInHanded_of_change (C := Try.checked) own_knob started (by kernel_rfl) Try.func9
    (ChangeSpec.witness6 (enc := enc) (C := Try.checked) false ⟨#[], #[.slice none 0 0], []⟩ 8 (by kernel_rfl) (by kernel_rfl) (by kernel_rfl) (by kernel_rfl)) ?_
  intro W base args ds gs before hval0 hW hcnd _
  have hval : ∀ (j : Nat) t v, Try.f9.params[j]? = some t → args[j]? = some v → Value.okWide Try.prog W .any base t v := hval0
  have hW' := hW
  obtain ⟨p, q, hA0, hV, rfl, hfz, hnd⟩ := hW
  have hA : DataW.TrodAll enc Try.prog W 0 (fun _ => true) true Try.f9.params.toList args.toList ds p := hA0
  rw [Try.params9] at hA hval
  obtain ⟨v0, vs0, d0, ds0, p0, q0, hargs, rfl, rfl, h0, r0⟩ := trodAll_cons hA
  obtain ⟨rfl, rfl, rfl⟩ := trodAll_nil r0
  obtain rfl : args = #[v0] := by cases args; simp_all
  obtain ⟨rfl, rfl⟩ := trodVars_none hV
  have k0 := h0
  have lt0 : ∀ x ∈ p0, x.block < W.heap.size := by obtain ⟨m, hm⟩ := k0; exact DataW.trod_lt m _ _ _ hm
  obtain ⟨A0, c0, l0, rfl, hl0, hm0, rd0, by0⟩ := open_bytes Try.underlying38 Try.underlying5 (by kernel_rfl) (hval 0 38 v0 rfl rfl) h0
  clear hA0 hval0
  refine (walk A0 c0 l0 W hl0 hm0 rd0 by0).mono fun e W' ⟨he, bel⟩ => ?_
  subst he
  exact ⟨_, rfl, _, _, _, [], _, [], hW', trodAll_mk1 (shut_bool Try.underlying4 _), (trodAll_cons_mk (Below.trod laid_out (by kernel_rfl) (of_decide_eq_true (by kernel_rfl)) k0 bel lt0) trodAll_mk0), rfl, bel.frame _, fun h => by cases h⟩
theorem over : Rows.fnFlashViewRow.holds Try.pinned (OpenSpec.ofChange Rows.fnFlashViewSpec) :=
  OpenClaim.holds_of_wide 9 Try.f9 rfl rfl rfl rfl rfl rfl rfl ⟨rfl, rfl, rfl, rfl, rfl⟩ rfl rfl rfl rfl rfl (by kernel_rfl) Try.func9 (by kernel_rfl)
    (of_decide_eq_true (by kernel_rfl)) (by unfold Func.isWrapper; first | (rw [if_pos (by decide +kernel)]; kernel_rfl) | (rw [if_neg (by decide +kernel)]; exact ⟨rfl, rfl⟩))
    (fun os started H enc _ => lifted os started H enc)
theorem proved : Rows.FnFlashViewSaid := over
end LwFvw
end Go.Proofs.Ytnnanknljpkdeaa
