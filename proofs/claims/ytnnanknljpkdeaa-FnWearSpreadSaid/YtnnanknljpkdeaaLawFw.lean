/-
  FnWearSpread: the spread is that of two blocks, and at least that of any two. No condition.
-/
import Derived.Test.YtnnanknljpkdeaaBase
import Derived.Test.YtnnanknljpkdeaaNum
import Derived.Test.YtnnanknljpkdeaaInts
import Derived.Test.YtnnanknljpkdeaaApp
import Derived.Test.YtnnanknljpkdeaaIntsW
import Derived.Test.YtnnanknljpkdeaaLib
import Derived.Test.YtnnanknljpkdeaaSpares
import Derived.Test.YtnnanknljpkdeaaOwn
import Derived.Test.YtnnanknljpkdeaaPage
import Derived.Test.YtnnanknljpkdeaaFlash
import Derived.Test.YtnnanknljpkdeaaFlashM
import Derived.Test.YtnnanknljpkdeaaFlashC
import Derived.Test.YtnnanknljpkdeaaFlashD
import Derived.Test.YtnnanknljpkdeaaFlashV
import Derived.Test.YtnnanknljpkdeaaThinC
import Derived.Test.YtnnanknljpkdeaaFlashW
import Derived.Test.YtnnanknljpkdeaaFlashN
import Derived.Test.YtnnanknljpkdeaaFlashX
import Derived.Test.YtnnanknljpkdeaaFlashY
import Derived.Test.YtnnanknljpkdeaaFlashZ
import Derived.Test.YtnnanknljpkdeaaFlashCB
import Derived.Test.YtnnanknljpkdeaaFlashWB
import Derived.Test.YtnnanknljpkdeaaFlashP
import Derived.Test.YtnnanknljpkdeaaFlashQ
import Derived.Test.YtnnanknljpkdeaaDraw
import Derived.Test.YtnnanknljpkdeaaDrawK
import Derived.Test.YtnnanknljpkdeaaDrawD
import Derived.Test.YtnnanknljpkdeaaNewP
import Derived.Test.YtnnanknljpkdeaaKept
import Derived.Test.YtnnanknljpkdeaaDrawFl
import Derived.Test.YtnnanknljpkdeaaDrawFx
import Derived.Test.YtnnanknljpkdeaaSameF
import Derived.Test.YtnnanknljpkdeaaOpen
import Derived.IntWalk
namespace Go.Proofs.Ytnnanknljpkdeaa
open Go.RowKit Go.ChangeShapes Go.WideShapes Go.ChangeAt Go.Deep Go.Joins
namespace LwFw
set_option maxHeartbeats 8000000 in
theorem walk (A : Option Addr) (c : Nat) (l : List Int) (w : World) (hl : l.length ≤ c) (hm : c ≤ maxLen) (hr : Rd eByte w A l) (hb : ∀ x ∈ l, 0 ≤ x ∧ x ≤ 255) :
    Calls Try.prog 10 #[.slice A l.length c] w fun e w' => e = .returned (.bool true) ∧ Below w.heap.size w w' := by
  have HB := Lib.hid hb
  clear hb
  by_cases hsz : (1048576 : Int) < l.length
  · unfold maxLen at hm
    go_enter Try.func10, Try.ntmps10
    go_wp2
    go_ret
    exact ⟨rfl, (by repeat (first | with_reducible exact Below.refl _ _ | with_reducible assumption | with_reducible refine below_drewN ?_ _ | with_reducible refine Below.drew ?_ | with_reducible refine Below.alloc ?_ ?_ _ | with_reducible refine Below.setCell ?_ ?_ _ | (with_reducible refine Below.next ?_ (by assumption)) | omega | (focus (simp; omega)) | (focus (simp; done))))⟩
  go_enter Try.func10, Try.ntmps10
  go_wp2_with fail
  refine (drawFwear_any A c l _ hl hm hr HB.out).mono ?_
  rintro e w1 ⟨y0, y1, f, rfl, hrd1, ⟨hfp, hfe⟩, hsm, hb1⟩
  obtain ⟨A0, c0, A1, c1, rfl, rfl⟩ := flashRd_lens hrd1
  have HSM := Lib.hid hsm
  have hz1 := hb1.size
  have HB1 := Lib.hid hb1
  have HF1 := Lib.hid hrd1
  have hszs : Hid (sizeFlash f ≤ 1099511627776) := Lib.hid (by unfold sizeFlash; omega)
  have LS := Loc.newAt w1 [.slice A0 f.pages.length c0, .slice A1 f.erases.length c1] 30 (b := w1.heap.size) rfl
  clear hb1 hrd1 hsm hsz
  obtain ⟨n, hn⟩ : ∃ n, n = wearB f := ⟨_, rfl⟩
  have HN := Lib.hid hn
  clear hn
  go_wp2_with fail
  refine (implWear_c _ _ f _ (FlashRd.below HF1.out (by repeat (first | with_reducible exact Below.refl _ _ | with_reducible refine below_drewN ?_ _ | with_reducible refine Below.drew ?_ | with_reducible refine Below.alloc ?_ ?_ _ | with_reducible refine Below.setCell ?_ ?_ _ | omega | (focus (simp; omega)) | (focus (simp; done))))) hszs.out).mono ?_
  rw [← HN.out]
  rintro e w2 ⟨rfl, hb2⟩
  replace LS := Loc.carryB LS (fun h => by ((repeat (first | with_reducible exact h | with_reducible refine Loc.drew ?_ | with_reducible refine Loc.drewN ?_ _ | with_reducible refine Loc.alloc ?_ _)); done)) hb2
  (try clear s0 s1 sf)
  obtain ⟨s0, s1, sf⟩ := LS.two
  have zS2 := LS.lt
  have HB2 : Hid (Below w.heap.size w w2) := Lib.hid (Below.next (W := w) (by repeat (first | with_reducible exact HB1.out | with_reducible exact Below.refl _ _ | with_reducible refine below_drewN ?_ _ | with_reducible refine Below.drew ?_ | with_reducible refine Below.alloc ?_ ?_ _ | with_reducible refine Below.setCell ?_ ?_ _ | (with_reducible refine Below.next ?_ (by assumption)) | ((with_reducible refine Below.far' (by assumption) ?_ ?_ ?_); (focus (first | omega | (simp; omega) | (simp; done))); (focus (first | omega | (simp; omega) | (simp; done)))) | omega | (focus (simp; omega)) | (focus (simp; done)))) hb2)
  have HF2 := Lib.hid (FlashRd.below HF1.out (Below.next (by repeat (first | with_reducible exact Below.refl _ _ | with_reducible refine below_drewN ?_ _ | with_reducible refine Below.drew ?_ | with_reducible refine Below.alloc ?_ ?_ _ | with_reducible refine Below.setCell ?_ ?_ _ | omega | (focus (simp; omega)) | (focus (simp; done)))) hb2))
  have hz2 := hb2.size
  (try simp at hz2)
  clear hb2
  go_wp2_with fail
  refine (specWear_c _ _ f _ (FlashRd.below HF2.out (by repeat (first | with_reducible exact Below.refl _ _ | with_reducible refine below_drewN ?_ _ | with_reducible refine Below.drew ?_ | with_reducible refine Below.alloc ?_ ?_ _ | with_reducible refine Below.setCell ?_ ?_ _ | omega | (focus (simp; omega)) | (focus (simp; done))))) hszs.out).mono ?_
  rw [← HN.out]
  rintro e w3 ⟨rfl, hb3⟩
  replace LS := Loc.carryB LS (fun h => by ((repeat (first | with_reducible exact h | with_reducible refine Loc.drew ?_ | with_reducible refine Loc.drewN ?_ _ | with_reducible refine Loc.alloc ?_ _)); done)) hb3
  (try clear s0 s1 sf)
  obtain ⟨s0, s1, sf⟩ := LS.two
  have zS3 := LS.lt
  have HB3 : Hid (Below w.heap.size w w3) := Lib.hid (Below.next (W := w) (by repeat (first | with_reducible exact HB2.out | with_reducible exact Below.refl _ _ | with_reducible refine below_drewN ?_ _ | with_reducible refine Below.drew ?_ | with_reducible refine Below.alloc ?_ ?_ _ | with_reducible refine Below.setCell ?_ ?_ _ | (with_reducible refine Below.next ?_ (by assumption)) | ((with_reducible refine Below.far' (by assumption) ?_ ?_ ?_); (focus (first | omega | (simp; omega) | (simp; done))); (focus (first | omega | (simp; omega) | (simp; done)))) | omega | (focus (simp; omega)) | (focus (simp; done)))) hb3)
  have HF3 := Lib.hid (FlashRd.below HF2.out (Below.next (by repeat (first | with_reducible exact Below.refl _ _ | with_reducible refine below_drewN ?_ _ | with_reducible refine Below.drew ?_ | with_reducible refine Below.alloc ?_ ?_ _ | with_reducible refine Below.setCell ?_ ?_ _ | omega | (focus (simp; omega)) | (focus (simp; done)))) hb3))
  have hz3 := hb3.size
  (try simp at hz3)
  clear hb3
  cases hv : flashB f
  · have hn1 : n = -1 := by rw [HN.out]; unfold wearB; rw [hv]; rfl
    subst hn1
    clear hv
    go_wp2_with (go_at_call 28; refine (alive_any _).mono ?_; rintro e w6 ⟨rfl, hb6⟩)
    go_ret
    exact ⟨rfl, Below.next (W := w) HB3.out hb6⟩
  · have he0 : 0 < f.erases.length := (flash_ers hv).1
    obtain ⟨⟨a, b, ha, hb', hab⟩, hall⟩ := spread_spec he0
    have hnn : n = maxL f.erases - minL f.erases := by rw [HN.out]; unfold wearB; rw [hv]; rfl
    rw [← hnn] at hab hall
    have hn0 : ¬ n < 0 := by have := hall 0 0 he0 he0; omega
    have HAB := Lib.hid hab
    have HALL := Lib.hid hall
    have HE := Lib.hid (FlashRd.ers HF3.out)
    clear hab hall hnn hv
    go_wp2
    go_loopw [5, 6] (fun m i wr => ∃ k : Nat, k ≤ f.erases.length ∧ i = .int .i64 k ∧ (∃ mb : Bool, m = .bool mb ∧ Hid (a < k → mb = true)) ∧ ∃ q, wr = w3.drewN q) (fun _ i _ => f.erases.length - (intOf i).toNat)
    case atStart => exact ⟨0, Nat.zero_le _, rfl, ⟨false, rfl, Lib.hid (fun h => absurd h (by omega))⟩, 0, rfl⟩
    case round =>
      obtain ⟨k, hk, rfl, ⟨mb, rfl, HM⟩, q, rfl⟩ := hrel
      by_cases hlt : k < f.erases.length
      · go_wp2
        go_loopw [5, 7] (fun m i wr => ∃ j : Nat, j ≤ f.erases.length ∧ i = .int .i64 j ∧ (∃ mb : Bool, m = .bool mb ∧ Hid (a < k ∨ (a = k ∧ b < j) → mb = true)) ∧ ∃ q, wr = w3.drewN q) (fun _ i _ => f.erases.length - (intOf i).toNat)
        case atStart => exact ⟨0, Nat.zero_le _, rfl, ⟨mb, rfl, Lib.hid (fun h => HM.out (by omega))⟩, q, rfl⟩
        case round =>
          obtain ⟨j, hj, rfl, ⟨nb, rfl, HNB⟩, q2, rfl⟩ := hrel
          by_cases hjl : j < f.erases.length
          · obtain ⟨b1, off, rfl, hbl, hcs⟩ := HE.out.ints (by omega)
            have hck := hcs k hlt
            have hcj := hcs j hjl
            have hle := HALL.out k j hlt hjl
            have hx := HSM.out _ (List.getElem_mem hlt)
            have hy := HSM.out _ (List.getElem_mem hjl)
            have hw := IntWalk.i64_in ((f.erases[k]'hlt) - (f.erases[j]'hjl)) (by omega)
            have hgt : decide (n < (f.erases[k]'hlt) - (f.erases[j]'hjl)) = false := by simp; omega
            have HQ : Hid (a = k ∧ b = j → (((f.erases[k]'hlt) - (f.erases[j]'hjl)) == n) = true) := Lib.hid (by
              rintro ⟨rfl, rfl⟩
              simpa using HAB.out)
            obtain ⟨x, hx'⟩ : ∃ x, x = f.erases[k]'hlt := ⟨_, rfl⟩
            obtain ⟨y, hy'⟩ : ∃ y, y = f.erases[j]'hjl := ⟨_, rfl⟩
            rw [← hx', ← hy'] at hw hgt HQ
            rw [← hx'] at hck
            rw [← hy'] at hcj
            clear hcs hx' hy' hx hy hle
            cases nb
            · cases hee : (x - y == n)
              · have HEE := Lib.hid hee
                go_wp2
                go_quiet (fail)
                go_wp2
                go_roundw
                case rel => exact ⟨j + 1, by omega, by go_num, ⟨_, rfl, Lib.hid (fun h => by
                  by_cases h1 : a = k ∧ b = j
                  · have := HQ.out h1; rw [HEE.out] at this; cases this
                  · exact HNB.out (by omega))⟩, _, rfl⟩
                case measure => simp [intOf]; omega
              · go_wp2
                go_quiet (fail)
                go_wp2
                go_roundw
                case rel => exact ⟨j + 1, by omega, by go_num, ⟨_, rfl, Lib.hid (fun _ => rfl)⟩, _, rfl⟩
                case measure => simp [intOf]; omega
            · go_wp2
              go_quiet (fail)
              go_wp2
              go_roundw
              case rel => exact ⟨j + 1, by omega, by go_num, ⟨_, rfl, Lib.hid (fun _ => rfl)⟩, _, rfl⟩
              case measure => simp [intOf]; omega
          · go_wp2
            go_roundw
            case rel => exact ⟨k + 1, by omega, by go_num, ⟨nb, rfl, Lib.hid (fun h => HNB.out (by omega))⟩, _, rfl⟩
            case measure => simp [intOf]; omega
      · have hmt : mb = true := HM.out (by omega)
        subst hmt
        go_wp2
        go_ret
        exact ⟨rfl, (by repeat (first | with_reducible exact HB3.out | with_reducible exact Below.refl _ _ | with_reducible refine below_drewN ?_ _ | with_reducible refine Below.drew ?_ | with_reducible refine Below.alloc ?_ ?_ _ | with_reducible refine Below.setCell ?_ ?_ _ | (with_reducible refine Below.next ?_ (by assumption)) | ((with_reducible refine Below.far' (by assumption) ?_ ?_ ?_); (focus (first | omega | (simp; omega) | (simp; done))); (focus (first | omega | (simp; omega) | (simp; done)))) | omega | (focus (simp; omega)) | (focus (simp; done))))⟩
set_option maxRecDepth 100000 in
theorem lifted (os : Os) (started : os.Started) (H : Type) (enc : TypeId × Value → H) :
    ReturnsInHanded {} Try.checked os 10 .any (Rows.fnWearSpreadSpec.pre6 enc Try.prog Try.f10 Rows.fnWearSpreadRow.domain false) (Rows.fnWearSpreadSpec.post enc Try.prog Try.f10 false true false false) := by
  refine returnsInHanded_of_change (C := Try.checked) own_knob started (by kernel_rfl) Try.func10
    (ChangeSpec.witness6 (enc := enc) (C := Try.checked) false ⟨#[], #[.slice none 0 0], []⟩ 8 (by kernel_rfl) (by kernel_rfl) (by kernel_rfl) (by kernel_rfl)) ?_
  intro W base args ds gs before hval0 hW hcnd _
  have hval : ∀ (j : Nat) t v, Try.f10.params[j]? = some t → args[j]? = some v → Value.okWide Try.prog W .any base t v := hval0
  have hW' := hW
  obtain ⟨p, q, hA0, hV, rfl, hfz, hnd⟩ := hW
  have hA : DataW.TrodAll enc Try.prog W 0 (fun _ => true) true Try.f10.params.toList args.toList ds p := hA0
  rw [Try.params10] at hA hval
  obtain ⟨v0, vs0, d0, ds0, p0, q0, hargs, rfl, rfl, h0, r0⟩ := trodAll_cons hA
  obtain ⟨rfl, rfl, rfl⟩ := trodAll_nil r0
  obtain rfl : args = #[v0] := by cases args; simp_all
  obtain ⟨rfl, rfl⟩ := trodVars_none hV
  have k0 := h0
  have lt0 : ∀ x ∈ p0, x.block < W.heap.size := by obtain ⟨m, hm⟩ := k0; exact DataW.trod_lt m _ _ _ hm
  obtain ⟨A0, c0, l0, rfl, hl0, hm0, rd0, by0⟩ := open_bytes Try.underlying38 Try.underlying5 (by kernel_rfl) (hval 0 38 v0 rfl rfl) h0
  clear hA0 hval0
  refine (walk A0 c0 l0 W hl0 hm0 rd0 by0).mono fun e W' ⟨he, bel⟩ => ?_
  subst he
  exact ⟨_, rfl, _, _, _, [], _, [], hW', trodAll_mk1 (shut_bool Try.underlying4 _), (trodAll_cons_mk (Below.trod laid_out (by kernel_rfl) (of_decide_eq_true (by kernel_rfl)) k0 bel lt0) trodAll_mk0), rfl, bel.frame _, fun h => by cases h⟩
theorem over : Rows.fnWearSpreadRow.holds Try.pinned (OpenSpec.ofChange Rows.fnWearSpreadSpec) :=
  OpenClaim.holds_of_wide 10 Try.f10 rfl rfl rfl rfl rfl rfl rfl ⟨rfl, rfl, rfl, rfl, rfl⟩ rfl rfl rfl rfl rfl (by kernel_rfl) Try.func10 (by kernel_rfl)
    (of_decide_eq_true (by kernel_rfl)) (by unfold Func.isWrapper; first | (rw [if_pos (by decide +kernel)]; kernel_rfl) | (rw [if_neg (by decide +kernel)]; exact ⟨rfl, rfl⟩))
    (fun os started H enc _ => lifted os started H enc)
theorem proved : Rows.FnWearSpreadSaid := over
end LwFw
end Go.Proofs.Ytnnanknljpkdeaa
