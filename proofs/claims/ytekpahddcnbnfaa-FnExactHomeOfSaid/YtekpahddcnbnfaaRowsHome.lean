/-
  FnExactHomeOf: the program's HomeOf returns what the reference's returns, for all arguments. No condition.
-/
import Derived.Test.YtekpahddcnbnfaaBase
import Derived.Test.YtekpahddcnbnfaaNum
import Derived.Test.YtekpahddcnbnfaaInts
import Derived.Test.YtekpahddcnbnfaaApp
import Derived.Test.YtekpahddcnbnfaaIntsW
import Derived.Test.YtekpahddcnbnfaaLib
import Derived.Test.YtekpahddcnbnfaaSpares
import Derived.Test.YtekpahddcnbnfaaHome
import Derived.Test.YtekpahddcnbnfaaOpen
namespace Go.Proofs.Ytekpahddcnbnfaa
open Go.RowKit Go.ChangeShapes Go.WideShapes Go.ChangeAt Go.Deep Go.Joins
namespace ExHome
set_option maxHeartbeats 2000000 in
theorem walk (a b : Int) (A : Option Addr) (c : Nat) (l : List Int) (x : Int) (w : World) (_ : -9223372036854775808 ≤ a ∧ a ≤ 9223372036854775807) (_ : -9223372036854775808 ≤ b ∧ b ≤ 9223372036854775807)
    (hl : l.length ≤ c) (hm : c ≤ maxLen) (hr : Rd eInt w A l) (_ : -9223372036854775808 ≤ x ∧ x ≤ 9223372036854775807) :
    Calls Try.prog 4 #[.agg #[.int .i64 a, .int .i64 b, .slice A l.length c], .int .i64 x] w fun e w' => e = .returned (.bool true) ∧ Below w.heap.size w w' := by
  unfold maxLen at hm
  by_cases hsz : (1048576 : Int) < l.length
  · go_enter Try.func4, Try.ntmps4
    go_wp2_with (go_at_call 10; refine (szSpares_big A l.length c 1048576 a b _ (by omega) (by omega) (by omega) hsz).mono ?_; rintro e w' ⟨rfl, hb⟩)
    go_ret
    exact ⟨rfl, (by repeat (first | with_reducible exact Below.refl _ _ | with_reducible assumption | with_reducible refine below_drewN ?_ _ | with_reducible refine Below.drew ?_ | with_reducible refine Below.alloc ?_ ?_ _ | with_reducible refine Below.setCell ?_ ?_ _ | (with_reducible refine Below.next ?_ (by assumption)) | omega | (focus (simp; omega)) | (focus (simp; done))))⟩
  · have hl2 : l.length ≤ 1048576 := by omega
    have hl3 : l.length ≤ 1099511627776 := by omega
    go_enter Try.func4, Try.ntmps4
    go_wp2_with fail
    refine (szSpares_ok A l.length c 1048576 a b _ (by omega) (by omega) (by omega)).mono ?_
    rintro e w1 ⟨rfl, hb1⟩
    obtain ⟨hc1, hf1⟩ := bcell hb1
    have hz1 := hb1.size
    try simp at hz1
    try have z0_1 : w.heap.size < w1.heap.size := by omega
    go_wp2_with fail
    refine (toSpares_any ⟨a, b, l⟩ A c _ (by repeat (first | with_reducible assumption | with_reducible refine Rd.drew ?_ | with_reducible refine Rd.drewN ?_ _ | with_reducible refine Rd.alloc ?_ _ | (with_reducible refine Rd.below ?_ (by assumption)))) hl3).mono ?_
    rintro e w2 ⟨A2, c2, g2, rfl, hg2, row2, hb2⟩
    obtain ⟨hc2, hf2⟩ := bcell hb2
    have hz2 := hb2.size
    try simp at hz2
    try have z0_2 : w.heap.size < w2.heap.size := by omega
    go_wp2_with fail
    refine (specHome_any ⟨a, b, l⟩ A2 c2 x _ row2.rd hl3).mono ?_
    rintro e w3 ⟨rfl, hb3⟩
    obtain ⟨hc3, hf3⟩ := bcell hb3
    have hz3 := hb3.size
    try simp at hz3
    try have z0_3 : w.heap.size < w3.heap.size := by omega
    go_wp2_with fail
    refine (toSpares_any ⟨a, b, l⟩ A c _ (by repeat (first | with_reducible assumption | with_reducible refine Rd.drew ?_ | with_reducible refine Rd.drewN ?_ _ | with_reducible refine Rd.alloc ?_ _ | (with_reducible refine Rd.below ?_ (by assumption)))) hl3).mono ?_
    rintro e w4 ⟨A4, c4, g4, rfl, hg4, row4, hb4⟩
    obtain ⟨hc4, hf4⟩ := bcell hb4
    have hz4 := hb4.size
    try simp at hz4
    try have z0_4 : w.heap.size < w4.heap.size := by omega
    have rd4 := row4.rd
    have le4 := row4.le
    go_wp2_with fail
    refine (implHome_any ⟨a, b, l⟩ A4 c4 x _ (by repeat (first | with_reducible assumption | with_reducible refine Rd.drew ?_ | with_reducible refine Rd.drewN ?_ _ | with_reducible refine Rd.alloc ?_ _ | (with_reducible refine Rd.below ?_ (by assumption)))) le4 hl3).mono ?_
    rintro e w5 ⟨rfl, hb5⟩
    obtain ⟨hc5, hf5⟩ := bcell hb5
    have hz5 := hb5.size
    try simp at hz5
    try have z0_5 : w.heap.size < w5.heap.size := by omega
    go_wp2_with fail
    have z4_5 : w4.heap.size < w5.heap.size := by omega
    have L0 := ((((((Loc.new w [.int .i64 a, .int .i64 b, .slice A l.length c] 24).below hb1).below hb2).below hb3).below hb4).alloc _).below hb5
    obtain ⟨k0, k1, k2, kf⟩ := L0.three
    have L4 := (Loc.new w4 [.int .i64 a, .int .i64 b, .slice A4 l.length c4] 27).below hb5
    obtain ⟨j0, j1, j2, jf⟩ := L4.three
    go_region_held3 (fun w' => w'.cell? ⟨w.heap.size, 0, none⟩ = some (.int .i64 a) ∧ w'.cell? ⟨w.heap.size, 1, none⟩ = some (.int .i64 b) ∧ w'.cell? ⟨w.heap.size, 2, none⟩ = some (.slice A l.length c) ∧
        w'.cell? ⟨w4.heap.size, 0, none⟩ = some (.int .i64 a) ∧ w'.cell? ⟨w4.heap.size, 1, none⟩ = some (.int .i64 b) ∧ w'.cell? ⟨w4.heap.size, 2, none⟩ = some (.slice A4 l.length c4)) (go_keep)
      (first
        | (go_at_call 12; (with_reducible refine (toSpares_any ⟨a, b, l⟩ A c _ (by repeat (first | with_reducible assumption | with_reducible refine Rd.drew ?_ | with_reducible refine Rd.drewN ?_ _ | with_reducible refine Rd.alloc ?_ _ | (with_reducible refine Rd.below ?_ (by assumption)))) hl3).mono ?_); rintro e w6 ⟨A6, c6, g6, rfl, hg6, row6, hb6⟩; have M0 := Loc.carryB L0 (fun h => by ((repeat (first | with_reducible exact h | with_reducible refine Loc.drew ?_ | with_reducible refine Loc.drewN ?_ _ | with_reducible refine Loc.alloc ?_ _)); done)) hb6; obtain ⟨m0, m1, m2, mf⟩ := M0.three; have M4 := Loc.carryB L4 (fun h => by ((repeat (first | with_reducible exact h | with_reducible refine Loc.drew ?_ | with_reducible refine Loc.drewN ?_ _ | with_reducible refine Loc.alloc ?_ _)); done)) hb6; obtain ⟨n0, n1, n2, nf⟩ := M4.three)
        | (go_at_call 14; (with_reducible refine (eqSpares_any ⟨a, b, l⟩ ⟨a, b, l⟩ A4 A6 c4 c6 _ (by repeat (first | with_reducible assumption | with_reducible refine Rd.drew ?_ | with_reducible refine Rd.drewN ?_ _ | with_reducible refine Rd.alloc ?_ _ | (with_reducible refine Rd.below ?_ (by assumption)))) row6.rd hl3 hl3).mono ?_); rintro e w7 ⟨rfl, hb7⟩; have O0 := Loc.carryB M0 (fun h => by ((repeat (first | with_reducible exact h | with_reducible refine Loc.drew ?_ | with_reducible refine Loc.drewN ?_ _ | with_reducible refine Loc.alloc ?_ _)); done)) hb7; obtain ⟨o0, o1, o2, of⟩ := O0.three; have O4 := Loc.carryB M4 (fun h => by ((repeat (first | with_reducible exact h | with_reducible refine Loc.drew ?_ | with_reducible refine Loc.drewN ?_ _ | with_reducible refine Loc.alloc ?_ _)); done)) hb7; obtain ⟨p0, p1, p2, pf⟩ := O4.three))
    go_wp2
    go_ret
    exact ⟨rfl, (by repeat (first | with_reducible exact Below.refl _ _ | with_reducible assumption | with_reducible refine below_drewN ?_ _ | with_reducible refine Below.drew ?_ | with_reducible refine Below.alloc ?_ ?_ _ | with_reducible refine Below.setCell ?_ ?_ _ | (with_reducible refine Below.next ?_ (by assumption)) | omega | (focus (simp; omega)) | (focus (simp; done))))⟩
set_option maxRecDepth 100000 in
theorem lifted (os : Os) (started : os.Started) (H : Type) (enc : TypeId × Value → H) :
    ReturnsInHanded {} Try.checked os 4 .any (Rows.fnExactHomeOfSpec.pre6 enc Try.prog Try.f4 Rows.fnExactHomeOfRow.domain false) (Rows.fnExactHomeOfSpec.post enc Try.prog Try.f4 false true false false) := by
  refine returnsInHanded_of_change (C := Try.checked) own_knob started (by kernel_rfl) Try.func4
    (ChangeSpec.witness6 (enc := enc) (C := Try.checked) false ⟨#[], #[.agg #[.int .i64 0, .int .i64 0, .slice none 0 0], .int .i64 0], []⟩ 8 (by kernel_rfl) (by kernel_rfl) (by kernel_rfl) (by kernel_rfl)) ?_
  intro W base args ds gs before hval0 hW hcnd _
  have hval : ∀ (j : Nat) t v, Try.f4.params[j]? = some t → args[j]? = some v → Value.okWide Try.prog W .any base t v := hval0
  have hW' := hW
  obtain ⟨p, q, hA0, hV, rfl, hfz, hnd⟩ := hW
  have hA : DataW.TrodAll enc Try.prog W 0 (fun _ => true) true Try.f4.params.toList args.toList ds p := hA0
  rw [Try.params4] at hA hval
  obtain ⟨v0, vs0, d0, ds0, p0, q0, hargs, rfl, rfl, h0, r0⟩ := trodAll_cons hA
  obtain ⟨v1, vs1, d1, ds1, p1, q1, rfl, rfl, rfl, h1, r1⟩ := trodAll_cons r0
  obtain ⟨rfl, rfl, rfl⟩ := trodAll_nil r1
  obtain rfl : args = #[v0, v1] := by cases args; simp_all
  obtain ⟨rfl, rfl⟩ := trodVars_none hV
  have k0 := h0
  have lt0 : ∀ x ∈ p0, x.block < W.heap.size := by obtain ⟨m, hm⟩ := k0; exact DataW.trod_lt m _ _ _ hm
  obtain ⟨a0, b0, A0, c0, l0, rfl, ba0, bb0, hl0, hm0, rd0⟩ := open_spares Try.underlying24 (by kernel_rfl) (by kernel_rfl) Try.underlying3 Try.underlying3 Try.underlying22 Try.underlying3 (by kernel_rfl) (hval 0 24 v0 rfl rfl) h0
  obtain ⟨a1, rfl, rfl, rfl, e1⟩ := open_int Try.underlying3 (hval 1 3 v1 rfl rfl) h1
  clear hA0 hval0
  refine (walk a0 b0 A0 c0 l0 a1 W ba0 bb0 hl0 hm0 rd0 (wf_i64 e1)).mono fun e W' ⟨he, bel⟩ => ?_
  subst he
  exact ⟨_, rfl, _, _, _, [], _, [], hW', trodAll_mk1 (shut_bool Try.underlying4 _), (trodAll_cons_mk (Below.trod laid_out (by kernel_rfl) (of_decide_eq_true (by kernel_rfl)) k0 bel lt0) (trodAll_cons_mk (shut_int Try.underlying3 e1) trodAll_mk0)), rfl, bel.frame _, fun h => by cases h⟩
theorem over : Rows.fnExactHomeOfRow.holds Try.pinned (OpenSpec.ofChange Rows.fnExactHomeOfSpec) :=
  OpenClaim.holds_of_wide 4 Try.f4 rfl rfl rfl rfl rfl rfl rfl ⟨rfl, rfl, rfl, rfl, rfl⟩ rfl rfl rfl rfl rfl (by kernel_rfl) Try.func4 (by kernel_rfl)
    (of_decide_eq_true (by kernel_rfl)) (by unfold Func.isWrapper; first | (rw [if_pos (by decide +kernel)]; kernel_rfl) | (rw [if_neg (by decide +kernel)]; exact ⟨rfl, rfl⟩))
    (fun os started H enc _ => lifted os started H enc)
theorem proved : Rows.FnExactHomeOfSaid := over
end ExHome
end Go.Proofs.Ytekpahddcnbnfaa
