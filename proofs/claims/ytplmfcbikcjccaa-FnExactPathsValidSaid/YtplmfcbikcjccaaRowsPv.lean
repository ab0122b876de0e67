/-
  FnExactPathsValid: the program's PathsValid returns what the reference's returns, for all arguments. No condition.
-/
import Derived.Test.YtplmfcbikcjccaaBase
import Derived.Test.YtplmfcbikcjccaaNum
import Derived.Test.YtplmfcbikcjccaaInts
import Derived.Test.YtplmfcbikcjccaaApp
import Derived.Test.YtplmfcbikcjccaaIntsW
import Derived.Test.YtplmfcbikcjccaaLib
import Derived.Test.YtplmfcbikcjccaaPathM
import Derived.Test.YtplmfcbikcjccaaPath
import Derived.Test.YtplmfcbikcjccaaPathC
import Derived.Test.YtplmfcbikcjccaaOpen
import Derived.Test.YtplmfcbikcjccaaRowsPath
namespace Go.Proofs.Ytplmfcbikcjccaa
open Go.RowKit Go.ChangeShapes Go.WideShapes Go.ChangeAt Go.Deep Go.Joins
namespace ExPaths
set_option maxHeartbeats 2000000 in
theorem walk (A : Option Addr) (c : Nat) (l : List Pth) (w : World) (_ : l.length ≤ c) (hm : c ≤ maxLen) (ha : Rd ePath w A l) :
    Calls Try.prog 3 #[.slice A l.length c] w fun e w' => e = .returned (.bool true) ∧ Below w.heap.size w w' := by
  unfold maxLen at hm
  by_cases hsz : (1048576 : Int) < l.length
  · go_enter Try.func3, Try.ntmps3
    go_wp2_with (go_at_call 12; refine (szPathS_big A l.length c 1048576 _ (by omega) (by omega) (by omega) hsz).mono ?_; rintro e w' ⟨rfl, rfl⟩)
    go_ret
    exact ⟨rfl, (by repeat (first | with_reducible exact Below.refl _ _ | with_reducible assumption | with_reducible refine below_drewN ?_ _ | with_reducible refine Below.drew ?_ | with_reducible refine Below.alloc ?_ ?_ _ | with_reducible refine Below.setCell ?_ ?_ _ | (with_reducible refine Below.next ?_ (by assumption)) | omega | (focus (simp; omega)) | (focus (simp; done))))⟩
  · have hl3 : l.length ≤ 1099511627776 := by omega
    go_enter Try.func3, Try.ntmps3
    go_wp2_with (go_at_call 12; refine (szPathS_ok A l.length c 1048576 _ (by omega) (by omega) (by omega)).mono ?_; rintro e w' ⟨rfl, rfl⟩)
    refine (toPathS_any A c l _ ha hl3).mono ?_
    rintro e w2 ⟨A2, c2, g2, rfl, hg2, _, row2, hb2⟩
    go_wp2_with fail
    refine (specPaths_any A2 c2 l _ row2.rd hl3).mono ?_
    rintro e w3 ⟨rfl, rfl⟩
    have ha3 := Lib.hid (ha.below hb2)
    go_wp2_with fail
    refine (toPathS_any A c l _ ha3.out hl3).mono ?_
    rintro e w4 ⟨A4, c4, g4, rfl, hg4, hlt4, row4, hb4⟩
    go_wp2_with fail
    refine (implPaths_any A4 c4 l _ row4.rd hl3).mono ?_
    rintro e w5 ⟨rfl, hb5⟩
    go_wp2_with fail
    refine (toPathS_any A c l _ ((ha3.out.below hb4).below hb5) hl3).mono ?_
    rintro e w6 ⟨A6, c6, g6, rfl, hg6, _, row6, hb6⟩
    go_wp2_with fail
    refine (eqPathS_any A4 A6 c4 c6 l l _ ((row4.below hb5).below hb6).rd row6.rd hl3 hl3).mono ?_
    rw [show decide (l = l) = true by simp]
    rintro e w7 ⟨rfl, hb7⟩
    go_wp2
    go_ret
    exact ⟨rfl, (by repeat (first | with_reducible exact Below.refl _ _ | with_reducible assumption | with_reducible refine below_drewN ?_ _ | with_reducible refine Below.drew ?_ | with_reducible refine Below.alloc ?_ ?_ _ | with_reducible refine Below.setCell ?_ ?_ _ | (with_reducible refine Below.next ?_ (by assumption)) | omega | (focus (simp; omega)) | (focus (simp; done))))⟩
set_option maxRecDepth 100000 in
theorem lifted (os : Os) (started : os.Started) (H : Type) (enc : TypeId × Value → H) :
    ReturnsInHanded {} Try.checked os 3 .any (Rows.fnExactPathsValidSpec.pre6 enc Try.prog Try.f3 Rows.fnExactPathsValidRow.domain false) (Rows.fnExactPathsValidSpec.post enc Try.prog Try.f3 false true false false) := by
  refine returnsInHanded_of_change (C := Try.checked) own_knob started (by kernel_rfl) Try.func3
    (ChangeSpec.witness6 (enc := enc) (C := Try.checked) false ⟨#[], #[.slice none 0 0], []⟩ 8 (by kernel_rfl) (by kernel_rfl) (by kernel_rfl) (by kernel_rfl)) ?_
  intro W base args ds gs before hval0 hW hcnd _
  have hval : ∀ (j : Nat) t v, Try.f3.params[j]? = some t → args[j]? = some v → Value.okWide Try.prog W .any base t v := hval0
  have hW' := hW
  obtain ⟨p, q, hA0, hV, rfl, hfz, hnd⟩ := hW
  have hA : DataW.TrodAll enc Try.prog W 0 (fun _ => true) true Try.f3.params.toList args.toList ds p := hA0
  rw [Try.params3] at hA hval
  obtain ⟨v0, vs0, d0, ds0, p0, q0, hargs, rfl, rfl, h0, r0⟩ := trodAll_cons hA
  obtain ⟨rfl, rfl, rfl⟩ := trodAll_nil r0
  obtain rfl : args = #[v0] := by cases args; simp_all
  obtain ⟨rfl, rfl⟩ := trodVars_none hV
  have k0 := h0
  have lt0 : ∀ x ∈ p0, x.block < W.heap.size := by obtain ⟨m, hm⟩ := k0; exact DataW.trod_lt m _ _ _ hm
  obtain ⟨A0, c0, l0, rfl, hl0, hm0, rd0⟩ := open_recs ePath Try.underlying22 (by kernel_rfl) (fun n cs y hy => dec_path Try.underlying43 (by kernel_rfl) (by kernel_rfl) Try.underlying4 Try.underlying3 hy) (hval 0 22 v0 rfl rfl) h0
  clear hA0 hval0
  refine (walk A0 c0 l0 W hl0 hm0 rd0).mono fun e W' ⟨he, bel⟩ => ?_
  subst he
  exact ⟨_, rfl, _, _, _, [], _, [], hW', trodAll_mk1 (shut_bool Try.underlying4 _), (trodAll_cons_mk (Below.trod laid_out (by kernel_rfl) (of_decide_eq_true (by kernel_rfl)) k0 bel lt0) trodAll_mk0), rfl, bel.frame _, fun h => by cases h⟩
theorem over : Rows.fnExactPathsValidRow.holds Try.pinned (OpenSpec.ofChange Rows.fnExactPathsValidSpec) :=
  OpenClaim.holds_of_wide 3 Try.f3 rfl rfl rfl rfl rfl rfl rfl ⟨rfl, rfl, rfl, rfl, rfl⟩ rfl rfl rfl rfl rfl (by kernel_rfl) Try.func3 (by kernel_rfl)
    (of_decide_eq_true (by kernel_rfl)) (by unfold Func.isWrapper; first | (rw [if_pos (by decide +kernel)]; kernel_rfl) | (rw [if_neg (by decide +kernel)]; exact ⟨rfl, rfl⟩))
    (fun os started H enc _ => lifted os started H enc)
theorem proved : Rows.FnExactPathsValidSaid := over
end ExPaths
end Go.Proofs.Ytplmfcbikcjccaa
