/-
  FnExactFillBucket, FnExactTakeTokens: the program's functions return what the reference's return, for all arguments. No condition.
-/
import Derived.Test.YtmgbenfmhgkogaaBase
import Derived.Test.YtmgbenfmhgkogaaNum
import Derived.Test.YtmgbenfmhgkogaaOpen
import Derived.Test.YtmgbenfmhgkogaaBucket
namespace Go.Proofs.Ytmgbenfmhgkogaa
open Go.RowKit Go.ChangeShapes Go.WideShapes Go.ChangeAt Go.Deep Go.Joins
namespace ExFill
set_option maxHeartbeats 400000 in
theorem walk (a b : Int) (now rate most : Int) (w : World) (_ : -9223372036854775808 ≤ a ∧ a ≤ 9223372036854775807) (_ : -9223372036854775808 ≤ b ∧ b ≤ 9223372036854775807)
    (_ : -9223372036854775808 ≤ now ∧ now ≤ 9223372036854775807) (_ : -9223372036854775808 ≤ rate ∧ rate ≤ 9223372036854775807) (_ : -9223372036854775808 ≤ most ∧ most ≤ 9223372036854775807) :
    Calls Try.prog 3 #[.agg #[.int .i64 a, .int .i64 b], .int .i64 now, .int .i64 rate, .int .i64 most] w fun e w' => e = .returned (.bool true) ∧ Below w.heap.size w w' := by
  go_enter Try.func3, Try.ntmps3
  go_wp2_with fail
  refine (toBucket_any ⟨a, b⟩ _).mono ?_
  rintro e w1 ⟨rfl, hb1⟩
  obtain ⟨hc1, hf1⟩ := bcell hb1
  have hz1 := hb1.size
  try simp at hz1
  try have z0_1 : w.heap.size < w1.heap.size := by omega
  go_wp2_with fail
  refine (specFill_any ⟨a, b⟩ now rate most _).mono ?_
  rintro e w2 ⟨rfl, hb2⟩
  obtain ⟨hc2, hf2⟩ := bcell hb2
  have hz2 := hb2.size
  try simp at hz2
  try have z0_2 : w.heap.size < w2.heap.size := by omega
  try have z1_2 : w1.heap.size < w2.heap.size := by omega
  go_wp2_with fail
  refine (toBucket_any ⟨a, b⟩ _).mono ?_
  rintro e w3 ⟨rfl, hb3⟩
  obtain ⟨hc3, hf3⟩ := bcell hb3
  have hz3 := hb3.size
  try simp at hz3
  try have z0_3 : w.heap.size < w3.heap.size := by omega
  try have z1_3 : w1.heap.size < w3.heap.size := by omega
  try have z2_3 : w2.heap.size < w3.heap.size := by omega
  go_wp2_with fail
  refine (implFill_any ⟨a, b⟩ now rate most _).mono ?_
  rintro e w4 ⟨rfl, hb4⟩
  obtain ⟨hc4, hf4⟩ := bcell hb4
  have hz4 := hb4.size
  try simp at hz4
  try have z0_4 : w.heap.size < w4.heap.size := by omega
  try have z1_4 : w1.heap.size < w4.heap.size := by omega
  try have z2_4 : w2.heap.size < w4.heap.size := by omega
  try have z3_4 : w3.heap.size < w4.heap.size := by omega
  go_wp2_with fail
  refine (eqBucket_any (fillB ⟨a, b⟩ now rate most) (fillB ⟨a, b⟩ now rate most) _).mono ?_
  rintro e w5 ⟨rfl, hb5⟩
  obtain ⟨hc5, hf5⟩ := bcell hb5
  have hz5 := hb5.size
  try simp at hz5
  try have z0_5 : w.heap.size < w5.heap.size := by omega
  try have z1_5 : w1.heap.size < w5.heap.size := by omega
  try have z2_5 : w2.heap.size < w5.heap.size := by omega
  try have z3_5 : w3.heap.size < w5.heap.size := by omega
  try have z4_5 : w4.heap.size < w5.heap.size := by omega
  go_wp2
  go_ret
  exact ⟨rfl, (by repeat (first | exact Below.refl _ _ | assumption | refine below_drewN ?_ _ | refine Below.drew ?_ | refine Below.alloc ?_ (by first | omega | (simp; omega) | (simp; done)) _ | refine Below.setCell ?_ (by first | omega | (simp; omega) | (simp; done)) _ | (refine Below.next ?_ (by assumption))))⟩
set_option maxRecDepth 100000 in
theorem lifted (os : Os) (started : os.Started) (H : Type) (enc : TypeId × Value → H) :
    ReturnsInHanded {} Try.checked os 3 .any (Rows.fnExactFillBucketSpec.pre6 enc Try.prog Try.f3 Rows.fnExactFillBucketRow.domain false) (Rows.fnExactFillBucketSpec.post enc Try.prog Try.f3 false true false false) := by
  refine returnsInHanded_of_change (C := Try.checked) own_knob started (by kernel_rfl) Try.func3
    (ChangeSpec.witness6 (enc := enc) (C := Try.checked) false ⟨#[], #[.agg #[.int .i64 0, .int .i64 0], .int .i64 0, .int .i64 0, .int .i64 0], []⟩ 8 (by kernel_rfl) (by kernel_rfl) (by kernel_rfl) (by kernel_rfl)) ?_
  intro W base args ds gs before hval0 hW hcnd _
  have hval : ∀ (j : Nat) t v, Try.f3.params[j]? = some t → args[j]? = some v → Value.okWide Try.prog W .any base t v := hval0
  have hW' := hW
  obtain ⟨p, q, hA0, hV, rfl, hfz, hnd⟩ := hW
  have hA : DataW.TrodAll enc Try.prog W 0 (fun _ => true) true Try.f3.params.toList args.toList ds p := hA0
  rw [Try.params3] at hA hval
  obtain ⟨v0, vs0, d0, ds0, p0, q0, hargs, rfl, rfl, h0, r0⟩ := trodAll_cons hA
  obtain ⟨v1, vs1, d1, ds1, p1, q1, rfl, rfl, rfl, h1, r1⟩ := trodAll_cons r0
  obtain ⟨v2, vs2, d2, ds2, p2, q2, rfl, rfl, rfl, h2, r2⟩ := trodAll_cons r1
  obtain ⟨v3, vs3, d3, ds3, p3, q3, rfl, rfl, rfl, h3, r3⟩ := trodAll_cons r2
  obtain ⟨rfl, rfl, rfl⟩ := trodAll_nil r3
  obtain rfl : args = #[v0, v1, v2, v3] := by cases args; simp_all
  obtain ⟨rfl, rfl⟩ := trodVars_none hV
  have k0 := h0
  have lt0 : ∀ x ∈ p0, x.block < W.heap.size := by obtain ⟨m, hm⟩ := k0; exact DataW.trod_lt m _ _ _ hm
  obtain ⟨a0, b0, rfl, ba0, bb0⟩ := open_two Try.underlying23 (by kernel_rfl) (by kernel_rfl) (by kernel_rfl) (by kernel_rfl) (hval 0 23 v0 rfl rfl) h0
  obtain ⟨a1, rfl, rfl, rfl, e1⟩ := open_int Try.underlying3 (hval 1 3 v1 rfl rfl) h1
  obtain ⟨a2, rfl, rfl, rfl, e2⟩ := open_int Try.underlying3 (hval 2 3 v2 rfl rfl) h2
  obtain ⟨a3, rfl, rfl, rfl, e3⟩ := open_int Try.underlying3 (hval 3 3 v3 rfl rfl) h3
  clear hA0 hval0
  refine (walk a0 b0 a1 a2 a3 W ba0 bb0 (wf_i64 e1) (wf_i64 e2) (wf_i64 e3)).mono fun e W' ⟨he, bel⟩ => ?_
  subst he
  exact ⟨_, rfl, _, _, _, [], _, [], hW', trodAll_mk1 (shut_bool Try.underlying4 _), (trodAll_cons_mk (Below.trod laid_out (by kernel_rfl) (of_decide_eq_true (by kernel_rfl)) k0 bel lt0) (trodAll_cons_mk (shut_int Try.underlying3 e1) (trodAll_cons_mk (shut_int Try.underlying3 e2) (trodAll_cons_mk (shut_int Try.underlying3 e3) trodAll_mk0)))), rfl, bel.frame _, fun h => by cases h⟩
theorem over : Rows.fnExactFillBucketRow.holds Try.pinned (OpenSpec.ofChange Rows.fnExactFillBucketSpec) :=
  OpenClaim.holds_of_wide 3 Try.f3 rfl rfl rfl rfl rfl rfl rfl ⟨rfl, rfl, rfl, rfl, rfl⟩ rfl rfl rfl rfl rfl (by kernel_rfl) Try.func3 (by kernel_rfl)
    (of_decide_eq_true (by kernel_rfl)) (by unfold Func.isWrapper; first | (rw [if_pos (by decide +kernel)]; kernel_rfl) | (rw [if_neg (by decide +kernel)]; exact ⟨rfl, rfl⟩))
    (fun os started H enc _ => lifted os started H enc)
theorem proved : Rows.FnExactFillBucketSaid := over
end ExFill
namespace ExTake
set_option maxHeartbeats 400000 in
theorem walk (a b n : Int) (w : World) (ha : -9223372036854775808 ≤ a ∧ a ≤ 9223372036854775807) (_ : -9223372036854775808 ≤ b ∧ b ≤ 9223372036854775807) (_ : -9223372036854775808 ≤ n ∧ n ≤ 9223372036854775807) :
    Calls Try.prog 4 #[.agg #[.int .i64 a, .int .i64 b], .int .i64 n] w fun e w' => e = .returned (.bool true) ∧ Below w.heap.size w w' := by
  have ha2 := ha.2
  clear ha
  go_enter Try.func4, Try.ntmps4
  go_wp2_with fail
  refine (toBucket_any ⟨a, b⟩ _).mono ?_
  rintro e w1 ⟨rfl, hb1⟩
  obtain ⟨hc1, hf1⟩ := bcell hb1
  have hz1 := hb1.size
  try simp at hz1
  try have z0_1 : w.heap.size < w1.heap.size := by omega
  go_wp2_with fail
  refine (specTake_any ⟨a, b⟩ n ha2 _).mono ?_
  rintro e w2 ⟨rfl, hb2⟩
  obtain ⟨hc2, hf2⟩ := bcell hb2
  have hz2 := hb2.size
  try simp at hz2
  try have z0_2 : w.heap.size < w2.heap.size := by omega
  try have z1_2 : w1.heap.size < w2.heap.size := by omega
  go_wp2_with fail
  refine (toBucket_any ⟨a, b⟩ _).mono ?_
  rintro e w3 ⟨rfl, hb3⟩
  obtain ⟨hc3, hf3⟩ := bcell hb3
  have hz3 := hb3.size
  try simp at hz3
  try have z0_3 : w.heap.size < w3.heap.size := by omega
  try have z1_3 : w1.heap.size < w3.heap.size := by omega
  try have z2_3 : w2.heap.size < w3.heap.size := by omega
  go_wp2_with fail
  refine (implTake_any ⟨a, b⟩ n ha2 _).mono ?_
  rintro e w4 ⟨rfl, hb4⟩
  obtain ⟨hc4, hf4⟩ := bcell hb4
  have hz4 := hb4.size
  try simp at hz4
  try have z0_4 : w.heap.size < w4.heap.size := by omega
  try have z1_4 : w1.heap.size < w4.heap.size := by omega
  try have z2_4 : w2.heap.size < w4.heap.size := by omega
  try have z3_4 : w3.heap.size < w4.heap.size := by omega
  go_wp2_with fail
  refine (eqBucket_any (takeB ⟨a, b⟩ n) (takeB ⟨a, b⟩ n) _).mono ?_
  rintro e w5 ⟨rfl, hb5⟩
  obtain ⟨hc5, hf5⟩ := bcell hb5
  have hz5 := hb5.size
  try simp at hz5
  try have z0_5 : w.heap.size < w5.heap.size := by omega
  try have z1_5 : w1.heap.size < w5.heap.size := by omega
  try have z2_5 : w2.heap.size < w5.heap.size := by omega
  try have z3_5 : w3.heap.size < w5.heap.size := by omega
  try have z4_5 : w4.heap.size < w5.heap.size := by omega
  go_wp2
  all_goals go_ret
  exact ⟨rfl, (by repeat (first | exact Below.refl _ _ | assumption | refine below_drewN ?_ _ | refine Below.drew ?_ | refine Below.alloc ?_ (by first | omega | (simp; omega) | (simp; done)) _ | refine Below.setCell ?_ (by first | omega | (simp; omega) | (simp; done)) _ | (refine Below.next ?_ (by assumption))))⟩
set_option maxRecDepth 100000 in
theorem lifted (os : Os) (started : os.Started) (H : Type) (enc : TypeId × Value → H) :
    ReturnsInHanded {} Try.checked os 4 .any (Rows.fnExactTakeTokensSpec.pre6 enc Try.prog Try.f4 Rows.fnExactTakeTokensRow.domain false) (Rows.fnExactTakeTokensSpec.post enc Try.prog Try.f4 false true false false) := by
  refine returnsInHanded_of_change (C := Try.checked) own_knob started (by kernel_rfl) Try.func4
    (ChangeSpec.witness6 (enc := enc) (C := Try.checked) false ⟨#[], #[.agg #[.int .i64 0, .int .i64 0], .int .i64 0], []⟩ 8 (by kernel_rfl) (by kernel_rfl) (by kernel_rfl) (by kernel_rfl)) ?_
  intro W base args ds gs before hval0 hW hcnd _
  have hval : ∀ (j : Nat) t v, Try.f4.params[j]? = some t → args[j]? = some v → Value.okWide Try.prog W .any base t v := hval0
  have hW' := hW
  obtain ⟨p, q, hA0, hV, rfl, hfz, hnd⟩ := hW
  have hA : DataW.TrodAll enc Try.prog W 0 (fun _ => true) true Try.f4.params.toList args.toList ds p := hA0
  rw [Try.params4] at hA hval
  obtain ⟨v0, vs0, d0, ds0, p0, q0, hargs, rfl, rfl, h0, r0⟩ := trodAll_cons hA
  obtain ⟨v1, vs1, d1, ds1, p1, q1, rfl, rfl, rfl, h1, r1⟩ := trodAll_cons r0
  obtain ⟨rfl, rfl, rfl⟩ := trodAll_nil r1
  obtain rfl : args = #[v0, v1] := by cases args; simp_all
  obtain ⟨rfl, rfl⟩ := trodVars_none hV
  have k0 := h0
  have lt0 : ∀ x ∈ p0, x.block < W.heap.size := by obtain ⟨m, hm⟩ := k0; exact DataW.trod_lt m _ _ _ hm
  obtain ⟨a0, b0, rfl, ba0, bb0⟩ := open_two Try.underlying23 (by kernel_rfl) (by kernel_rfl) (by kernel_rfl) (by kernel_rfl) (hval 0 23 v0 rfl rfl) h0
  obtain ⟨a1, rfl, rfl, rfl, e1⟩ := open_int Try.underlying3 (hval 1 3 v1 rfl rfl) h1
  clear hA0 hval0
  refine (walk a0 b0 a1 W ba0 bb0 (wf_i64 e1)).mono fun e W' ⟨he, bel⟩ => ?_
  subst he
  exact ⟨_, rfl, _, _, _, [], _, [], hW', trodAll_mk1 (shut_bool Try.underlying4 _), (trodAll_cons_mk (Below.trod laid_out (by kernel_rfl) (of_decide_eq_true (by kernel_rfl)) k0 bel lt0) (trodAll_cons_mk (shut_int Try.underlying3 e1) trodAll_mk0)), rfl, bel.frame _, fun h => by cases h⟩
theorem over : Rows.fnExactTakeTokensRow.holds Try.pinned (OpenSpec.ofChange Rows.fnExactTakeTokensSpec) :=
  OpenClaim.holds_of_wide 4 Try.f4 rfl rfl rfl rfl rfl rfl rfl ⟨rfl, rfl, rfl, rfl, rfl⟩ rfl rfl rfl rfl rfl (by kernel_rfl) Try.func4 (by kernel_rfl)
    (of_decide_eq_true (by kernel_rfl)) (by unfold Func.isWrapper; first | (rw [if_pos (by decide +kernel)]; kernel_rfl) | (rw [if_neg (by decide +kernel)]; exact ⟨rfl, rfl⟩))
    (fun os started H enc _ => lifted os started H enc)
theorem proved : Rows.FnExactTakeTokensSaid := over
end ExTake
end Go.Proofs.Ytmgbenfmhgkogaa
