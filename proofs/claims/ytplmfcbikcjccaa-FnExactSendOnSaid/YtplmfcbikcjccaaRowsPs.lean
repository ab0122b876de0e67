/-
  FnExactSendOn: the program's SendOn returns what the reference's returns, for all arguments. No condition.
-/
import Derived.Test.YtplmfcbikcjccaaBase
import Derived.Test.YtplmfcbikcjccaaNum
import Derived.Test.YtplmfcbikcjccaaInts
import Derived.Test.YtplmfcbikcjccaaApp
import Derived.Test.YtplmfcbikcjccaaIntsW
import Derived.Test.YtplmfcbikcjccaaLib
import Derived.Test.YtplmfcbikcjccaaPathM
import Derived.Test.YtplmfcbikcjccaaPath
import Derived.Test.YtplmfcbikcjccaaPathC
import Derived.Test.YtplmfcbikcjccaaOpen
import Derived.Test.YtplmfcbikcjccaaRowsPath
namespace Go.Proofs.Ytplmfcbikcjccaa
open Go.RowKit Go.ChangeShapes Go.WideShapes Go.ChangeAt Go.Deep Go.Joins
namespace ExSend
set_option maxHeartbeats 4000000 in
theorem walk (A : Option Addr) (c : Nat) (l : List Pth) (n : Int) (w : World) (_ : l.length ≤ c) (hm : c ≤ maxLen) (ha : Rd ePath w A l) (_ : -9223372036854775808 ≤ n ∧ n ≤ 9223372036854775807) :
    Calls Try.prog 7 #[.slice A l.length c, .int .i64 n] w fun e w' => e = .returned (.bool true) ∧ Below w.heap.size w w' := by
  unfold maxLen at hm
  by_cases hsz : (1048576 : Int) < l.length
  · go_enter Try.func7, Try.ntmps7
    go_wp2_with (go_at_call 12; refine (szPathS_big A l.length c 1048576 _ (by omega) (by omega) (by omega) hsz).mono ?_; rintro e w' ⟨rfl, rfl⟩)
    go_ret
    exact ⟨rfl, (by repeat (first | with_reducible exact Below.refl _ _ | with_reducible assumption | with_reducible refine below_drewN ?_ _ | with_reducible refine Below.drew ?_ | with_reducible refine Below.alloc ?_ ?_ _ | with_reducible refine Below.setCell ?_ ?_ _ | (with_reducible refine Below.next ?_ (by assumption)) | omega | (focus (simp; omega)) | (focus (simp; done))))⟩
  · have hl3 : l.length ≤ 1099511627776 := by omega
    have hsl := sendB_len l n
    obtain ⟨s, hs⟩ : ∃ s, s = sendB l n := ⟨_, rfl⟩
    have HS := Lib.hid hs
    rw [← hs] at hsl
    have hsl3 : s.1.length ≤ 1099511627776 := by omega
    clear hs
    go_enter Try.func7, Try.ntmps7
    go_wp2_with (go_at_call 12; refine (szPathS_ok A l.length c 1048576 _ (by omega) (by omega) (by omega)).mono ?_; rintro e w' ⟨rfl, rfl⟩)
    refine (toPathS_any A c l _ ha hl3).mono ?_
    rintro e w2 ⟨A2, c2, g2, rfl, hg2, _, row2, hb2⟩
    go_wp2_with fail
    refine (specSend_any A2 c2 l n _ row2.rd hl3).mono ?_
    rw [← HS.out]
    rintro e w3 ⟨A3, c3, g3, rfl, hg3, row3, hb3, _⟩
    have ha3 := Lib.hid ((ha.below hb2).below hb3)
    go_wp2_with fail
    refine (toPathS_any A c l _ ha3.out hl3).mono ?_
    rintro e w4 ⟨A4, c4, g4, rfl, hg4, hlt4, row4, hb4⟩
    go_wp2_with fail
    refine (implSend_any A4 c4 l n _ row4.rd hl3 row4.nilc).mono ?_
    rw [← HS.out]
    rintro e w5 ⟨A5, c5, g5, rfl, hg5, row5, hb5, _⟩
    go_wp2_with fail
    refine (eqPathS_any A5 A3 c5 c3 s.1 s.1 _ row5.rd ((row3.below hb4).below hb5).rd hsl3 hsl3).mono ?_
    rw [show decide (s.1 = s.1) = true by simp]
    rintro e w6 ⟨rfl, hb6⟩
    go_wp2_with fail
    refine (toPathS_any A c l _ (((ha3.out.below hb4).below hb5).below hb6) hl3).mono ?_
    rintro e w7 ⟨A7, c7, g7, rfl, hg7, _, row7, hb7⟩
    go_wp2_with fail
    refine (eqPathS_any A4 A7 c4 c7 l l _ (((row4.below hb5).below hb6).below hb7).rd row7.rd hl3 hl3).mono ?_
    rw [show decide (l = l) = true by simp]
    rintro e w8 ⟨rfl, hb8⟩
    have row3' := Lib.hid (((((row3.below hb4).below hb5).below hb6).below hb7).below hb8)
    have row4' := Lib.hid ((((row4.below hb5).below hb6).below hb7).below hb8)
    have row5' := Lib.hid (((row5.below hb6).below hb7).below hb8)
    have ha8 := Lib.hid (((((ha3.out.below hb4).below hb5).below hb6).below hb7).below hb8)
    have B8 : Hid (Below w.heap.size w w8) := Lib.hid ((by repeat (first | with_reducible exact Below.refl _ _ | with_reducible assumption | with_reducible refine below_drewN ?_ _ | with_reducible refine Below.drew ?_ | with_reducible refine Below.alloc ?_ ?_ _ | with_reducible refine Below.setCell ?_ ?_ _ | (with_reducible refine Below.next ?_ (by assumption)) | omega | (focus (simp; omega)) | (focus (simp; done)))))
    go_wp2_with fail
    refine (markPathS_any A4 c4 g4 l 1 _ row4'.out hl3 (by omega) (by omega)).mono ?_
    rintro e w9 ⟨rfl, row9, gr9⟩
    have m3 := row3.made?
    have hz2 := hb2.size
    have hz3 := hb3.size
    have hz4 := hb4.size
    have hz5 := hb5.size
    have hz6 := hb6.size
    have hz7 := hb7.size
    have hz8 := hb8.size
    have hz9 := gr9.size
    have row3'' := Lib.hid (row3'.out.far gr9 m3 hg4)
    have row5'' := Lib.hid (row5'.out.apart gr9 (by omega))
    have ha9 := Lib.hid (ha8.out.far ha gr9 (by omega))
    have B9 : Hid (Below w.heap.size w w9) := Lib.hid (Below.far B8.out gr9 (by omega) (by omega))
    clear hb4 hb5 hb6 hb7 hb8 row2 row4 row5 row7 row9
    go_wp2_with fail
    refine (eqPathS_any A5 A3 c5 c3 s.1 s.1 _ row5''.out.rd row3''.out.rd hsl3 hsl3).mono ?_
    rw [show decide (s.1 = s.1) = true by simp]
    rintro e w10 ⟨rfl, hb10⟩
    have hz10 := hb10.size
    go_wp2_with fail
    refine (markPathS_any A5 c5 g5 s.1 1 _ (row5''.out.below hb10) hsl3 (by omega) (by omega)).mono ?_
    rintro e w11 ⟨rfl, row11, gr11⟩
    have hz11 := gr11.size
    have B11 : Hid (Below w.heap.size w w11) := Lib.hid (Below.far (Below.next B9.out hb10) gr11 (by omega) (by omega))
    have ha11 := Lib.hid ((ha9.out.below hb10).far ha3.out gr11 (by omega))
    have row3''' := Lib.hid ((row3''.out.below hb10).far gr11 m3 (by omega))
    clear gr9 gr11 hb10
    go_wp2_with fail
    refine (heldPathS_any A5 c5 s.1.length 1 _ row11.rd hsl3 (by omega) (by omega)).mono ?_
    rintro e w12 ⟨rfl, rfl⟩
    go_wp2_with fail
    refine (toPathS_any A c l _ ha11.out hl3).mono ?_
    rintro e w13 ⟨A13, c13, g13, rfl, hg13, _, row13, hb13⟩
    go_wp2_with fail
    refine (implSend_any A13 c13 l n _ row13.rd hl3 row13.nilc).mono ?_
    rw [← HS.out]
    rintro e w14 ⟨A14, c14, g14, rfl, hg14, row14, hb14, _⟩
    go_wp2_with fail
    refine (eqPathS_any A14 A3 c14 c3 s.1 s.1 _ row14.rd ((row3'''.out.below hb13).below hb14).rd hsl3 hsl3).mono ?_
    rw [show decide (s.1 = s.1) = true by simp]
    rintro e w15 ⟨rfl, hb15⟩
    go_wp2_with fail
    refine (heldPathS_any A5 c5 s.1.length 1 _ (((row11.rd.below hb13).below hb14).below hb15) hsl3 (by omega) (by omega)).mono ?_
    rintro e w16 ⟨rfl, rfl⟩
    go_wp2
    go_ret
    exact ⟨rfl, Below.next (Below.next (Below.next B11.out hb13) hb14) hb15⟩
set_option maxRecDepth 100000 in
theorem lifted (os : Os) (started : os.Started) (H : Type) (enc : TypeId × Value → H) :
    ReturnsInHanded {} Try.checked os 7 .any (Rows.fnExactSendOnSpec.pre6 enc Try.prog Try.f7 Rows.fnExactSendOnRow.domain false) (Rows.fnExactSendOnSpec.post enc Try.prog Try.f7 false true false false) := by
  refine returnsInHanded_of_change (C := Try.checked) own_knob started (by kernel_rfl) Try.func7
    (ChangeSpec.witness6 (enc := enc) (C := Try.checked) false ⟨#[], #[.slice none 0 0, .int .i64 0], []⟩ 8 (by kernel_rfl) (by kernel_rfl) (by kernel_rfl) (by kernel_rfl)) ?_
  intro W base args ds gs before hval0 hW hcnd _
  have hval : ∀ (j : Nat) t v, Try.f7.params[j]? = some t → args[j]? = some v → Value.okWide Try.prog W .any base t v := hval0
  have hW' := hW
  obtain ⟨p, q, hA0, hV, rfl, hfz, hnd⟩ := hW
  have hA : DataW.TrodAll enc Try.prog W 0 (fun _ => true) true Try.f7.params.toList args.toList ds p := hA0
  rw [Try.params7] at hA hval
  obtain ⟨v0, vs0, d0, ds0, p0, q0, hargs, rfl, rfl, h0, r0⟩ := trodAll_cons hA
  obtain ⟨v1, vs1, d1, ds1, p1, q1, rfl, rfl, rfl, h1, r1⟩ := trodAll_cons r0
  obtain ⟨rfl, rfl, rfl⟩ := trodAll_nil r1
  obtain rfl : args = #[v0, v1] := by cases args; simp_all
  obtain ⟨rfl, rfl⟩ := trodVars_none hV
  have k0 := h0
  have lt0 : ∀ x ∈ p0, x.block < W.heap.size := by obtain ⟨m, hm⟩ := k0; exact DataW.trod_lt m _ _ _ hm
  obtain ⟨A0, c0, l0, rfl, hl0, hm0, rd0⟩ := open_recs ePath Try.underlying22 (by kernel_rfl) (fun n cs y hy => dec_path Try.underlying43 (by kernel_rfl) (by kernel_rfl) Try.underlying4 Try.underlying3 hy) (hval 0 22 v0 rfl rfl) h0
  obtain ⟨a1, rfl, rfl, rfl, e1⟩ := open_int Try.underlying3 (hval 1 3 v1 rfl rfl) h1
  clear hA0 hval0
  refine (walk A0 c0 l0 a1 W hl0 hm0 rd0 (wf_i64 e1)).mono fun e W' ⟨he, bel⟩ => ?_
  subst he
  exact ⟨_, rfl, _, _, _, [], _, [], hW', trodAll_mk1 (shut_bool Try.underlying4 _), (trodAll_cons_mk (Below.trod laid_out (by kernel_rfl) (of_decide_eq_true (by kernel_rfl)) k0 bel lt0) (trodAll_cons_mk (shut_int Try.underlying3 e1) trodAll_mk0)), rfl, bel.frame _, fun h => by cases h⟩
theorem over : Rows.fnExactSendOnRow.holds Try.pinned (OpenSpec.ofChange Rows.fnExactSendOnSpec) :=
  OpenClaim.holds_of_wide 7 Try.f7 rfl rfl rfl rfl rfl rfl rfl ⟨rfl, rfl, rfl, rfl, rfl⟩ rfl rfl rfl rfl rfl (by kernel_rfl) Try.func7 (by kernel_rfl)
    (of_decide_eq_true (by kernel_rfl)) (by unfold Func.isWrapper; first | (rw [if_pos (by decide +kernel)]; kernel_rfl) | (rw [if_neg (by decide +kernel)]; exact ⟨rfl, rfl⟩))
    (fun os started H enc _ => lifted os started H enc)
theorem proved : Rows.FnExactSendOnSaid := over
end ExSend
end Go.Proofs.Ytplmfcbikcjccaa
