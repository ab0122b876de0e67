/-
  FnFillBucket: buckets fill up to their limit. No condition.
-/
import Derived.Test.YtmgbenfmhgkogaaBase
import Derived.Test.YtmgbenfmhgkogaaNum
import Derived.Test.YtmgbenfmhgkogaaInts
import Derived.Test.YtmgbenfmhgkogaaBucket
import Derived.Test.YtmgbenfmhgkogaaDraw
import Derived.Test.YtmgbenfmhgkogaaDrawK
import Derived.Test.YtmgbenfmhgkogaaOwn
import Derived.Test.YtmgbenfmhgkogaaDrawTb
import Derived.Test.YtmgbenfmhgkogaaLib
import Derived.Test.YtmgbenfmhgkogaaGrant
import Derived.Test.YtmgbenfmhgkogaaGrantP
import Derived.Test.YtmgbenfmhgkogaaOpen
import Derived.IntWalk
namespace Go.Proofs.Ytmgbenfmhgkogaa
open Go.RowKit Go.ChangeShapes Go.WideShapes Go.ChangeAt Go.Deep Go.Joins
theorem fill_out {t l n r m : Int} (h : r < 0 ∨ m < t ∨ n < l) : fillB ⟨t, l⟩ n r m = ⟨0, 0⟩ := by
  refine fillB_no ?_
  cases hf : fillOk ⟨t, l⟩ n r m
  · rfl
  · simp only [fillOk, Bool.and_eq_true, inB_true] at hf
    omega
theorem fill_ok {t l n r m : Int} (t0 : 0 ≤ t) (l0 : 0 ≤ l) (l1 : l ≤ 1000) (n1 : n ≤ 1000) (r0 : 0 ≤ r) (r1 : r ≤ 12) (m0 : 0 ≤ m) (m1 : m ≤ 60) (h1 : t ≤ m) (h2 : l ≤ n) :
    ∃ x : Int, fillB ⟨t, l⟩ n r m = ⟨x, n⟩ ∧ t ≤ x ∧ x ≤ m ∧ ∀ mid, l ≤ mid → mid ≤ n → ∃ y : Int, fillB ⟨t, l⟩ mid r m = ⟨y, mid⟩ ∧ fillB ⟨y, mid⟩ n r m = ⟨x, n⟩ := by
  have hk : ∀ t' l' n', 0 ≤ t' → t' ≤ m → 0 ≤ l' → l' ≤ n' → n' ≤ 1000 → fillOk ⟨t', l'⟩ n' r m = true := fun t' l' n' a b c d e => by
    simp only [fillOk, Bool.and_eq_true, inB_true]; omega
  have hm0 : 0 ≤ r * (n - l) := Int.mul_nonneg r0 (by omega)
  refine ⟨min m (t + r * (n - l)), ?_, by omega, by omega, fun mid d1 d2 => ?_⟩
  · rw [fillB_yes (hk _ _ _ t0 h1 l0 h2 n1)]; rfl
  · have hm1 : 0 ≤ r * (mid - l) := Int.mul_nonneg r0 (by omega)
    refine ⟨min m (t + r * (mid - l)), ?_, ?_⟩
    · rw [fillB_yes (hk _ _ _ t0 h1 l0 d1 (by omega))]; rfl
    · rw [fillB_yes (hk _ _ _ (by omega) (by omega) (by omega) d2 n1)]
      exact fillTo_two ⟨t, l⟩ mid n r m d1 d2 r0
namespace LwFb
set_option maxHeartbeats 8000000 in
theorem walk (A : Option Addr) (c : Nat) (l : List Int) (w : World) (hl : l.length ≤ c) (hm : c ≤ maxLen) (hr : Rd eByte w A l) (hb : ∀ x ∈ l, 0 ≤ x ∧ x ≤ 255) :
    Calls Try.prog 6 #[.slice A l.length c] w fun e w' => e = .returned (.bool true) ∧ Below w.heap.size w w' := by
  have HB := Lib.hid hb
  clear hb
  by_cases hsz : (1048576 : Int) < l.length
  · unfold maxLen at hm
    go_enter Try.func6, Try.ntmps6
    go_wp2
    go_ret
    exact ⟨rfl, (by repeat (first | with_reducible exact Below.refl _ _ | with_reducible assumption | with_reducible refine below_drewN ?_ _ | with_reducible refine Below.drew ?_ | with_reducible refine Below.alloc ?_ ?_ _ | with_reducible refine Below.setCell ?_ ?_ _ | (with_reducible refine Below.next ?_ (by assumption)) | omega | (focus (simp; omega)) | (focus (simp; done))))⟩
  · go_enter Try.func6, Try.ntmps6
    go_wp2_with fail
    refine (drawFill_any A c l _ hl hm hr HB.out).mono ?_
    rintro e w1 ⟨⟨t, l2⟩, n, r, m, rfl, t0, t1, l0, l1, n0, n1, r0, r1, m0, m1, hb1⟩
    simp only at t0 t1 l0 l1
    have hz1 := hb1.size
    have HB1 := Lib.hid hb1
    have L3 := Loc.newAt w1 [.int .i64 t, .int .i64 l2] 24 (b := w1.heap.size) rfl
    clear hb1
    by_cases hbad : r < 0 ∨ m < t ∨ n < l2
    · have HX := Lib.hid (fill_out hbad)
      have heq : ∀ w, (binOp .eql 24 (.agg #[.int .i64 0, .int .i64 0]) (.agg #[.int .i64 0, .int .i64 0])).run Try.prog w = .ok (.bool true) w := fun w => by have := bk_eql ⟨0, 0⟩ ⟨0, 0⟩ w; simpa using this
      have hcase : (r < 0) ∨ (¬ r < 0 ∧ m < t) ∨ (¬ r < 0 ∧ ¬ m < t ∧ n < l2) := by omega
      clear hbad
      rcases hcase with h1 | ⟨h1, h2⟩ | ⟨h1, h2, h3⟩
      all_goals
        go_wp2_with fail
        refine (implFill_any ⟨t, l2⟩ n r m _).mono ?_
        rw [HX.out]
        rintro e w2 ⟨rfl, hb2⟩
        replace L3 := Loc.carryB L3 (fun h => by ((repeat (first | with_reducible exact h | with_reducible refine Loc.drew ?_ | with_reducible refine Loc.drewN ?_ _ | with_reducible refine Loc.alloc ?_ _)); done)) hb2
        have HB2 : Hid (Below w.heap.size w w2) := Lib.hid (Below.next (W := w) (by repeat (first | with_reducible exact HB1.out | with_reducible exact Below.refl _ _ | with_reducible refine below_drewN ?_ _ | with_reducible refine Below.drew ?_ | with_reducible refine Below.alloc ?_ ?_ _ | with_reducible refine Below.setCell ?_ ?_ _ | (with_reducible refine Below.next ?_ (by assumption)) | ((with_reducible refine Below.far' (by assumption) ?_ ?_ ?_); (focus (first | omega | (simp; omega) | (simp; done))); (focus (first | omega | (simp; omega) | (simp; done)))) | omega | (focus (simp; omega)) | (focus (simp; done)))) hb2)
        have L7 := Loc.newAt w2 [.int .i64 0, .int .i64 0] 24 (b := w2.heap.size) rfl
        have hz2 := hb2.size
        simp at hz2
        clear hb2
        go_wp2
        obtain ⟨x0, x1, xf⟩ := L3.two
        have z3 := L3.lt
        have hne : ∀ w, (binOp .neq 24 (.agg #[.int .i64 0, .int .i64 0]) (.agg #[.int .i64 0, .int .i64 0])).run Try.prog w = .ok (.bool false) w := fun w => by have := bk_neq ⟨0, 0⟩ ⟨0, 0⟩ w; simpa using this
        have hgd := bk_guard
        go_region_held3 (fun w' => w'.cell? ⟨w1.heap.size, 0, none⟩ = some (.int .i64 t) ∧ w'.cell? ⟨w1.heap.size, 1, none⟩ = some (.int .i64 l2) ∧ w'.cell? ⟨w2.heap.size, 0, none⟩ = some (.int .i64 0) ∧ w'.cell? ⟨w2.heap.size, 1, none⟩ = some (.int .i64 0)) (first | assumption | (refine ⟨?_, ?_, ?_, ?_⟩ <;> assumption) | (refine ⟨?_, ?_, ?_, ?_⟩ <;> (simp [go_sem, *]; done)) | go_keep)
          ((go_at_call 10; (with_reducible refine (specFill_any ⟨t, l2⟩ n r m _).mono ?_); rw [HX.out]; rintro e w3 ⟨rfl, hb3⟩; have L33 := Loc.carryB L3 (fun h => by ((repeat (first | with_reducible exact h | with_reducible refine Loc.drew ?_ | with_reducible refine Loc.drewN ?_ _ | with_reducible refine Loc.alloc ?_ _)); done)) hb3; have L73 := Loc.carryB L7 (fun h => by ((repeat (first | with_reducible exact h | with_reducible refine Loc.drew ?_ | with_reducible refine Loc.drewN ?_ _ | with_reducible refine Loc.alloc ?_ _)); done)) hb3; obtain ⟨y0, y1, yf⟩ := L33.two; obtain ⟨u0, u1, uf⟩ := L73.two; have HB3 : Hid (Below w.heap.size w w3) := Lib.hid (Below.next (W := w) (by repeat (first | with_reducible exact HB2.out | with_reducible exact Below.refl _ _ | with_reducible refine below_drewN ?_ _ | with_reducible refine Below.drew ?_ | with_reducible refine Below.alloc ?_ ?_ _ | with_reducible refine Below.setCell ?_ ?_ _ | (with_reducible refine Below.next ?_ (by assumption)) | ((with_reducible refine Below.far' (by assumption) ?_ ?_ ?_); (focus (first | omega | (simp; omega) | (simp; done))); (focus (first | omega | (simp; omega) | (simp; done)))) | omega | (focus (simp; omega)) | (focus (simp; done)))) hb3); have hz3 := hb3.size; (try simp at hz3); have z33 := L33.lt; have z73 := L73.lt; clear hb3))
        all_goals clear x0 x1 xf hne
        go_wp2_with (go_at_call 17; refine (alive_any _).mono ?_; rintro e w6 ⟨rfl, hb6⟩)
        go_ret
        exact ⟨rfl, (by repeat (first | with_reducible exact HB3.out | with_reducible exact Below.refl _ _ | with_reducible refine below_drewN ?_ _ | with_reducible refine Below.drew ?_ | with_reducible refine Below.alloc ?_ ?_ _ | with_reducible refine Below.setCell ?_ ?_ _ | (with_reducible refine Below.next ?_ (by assumption)) | ((with_reducible refine Below.far' (by assumption) ?_ ?_ ?_); (focus (first | omega | (simp; omega) | (simp; done))); (focus (first | omega | (simp; omega) | (simp; done)))) | omega | (focus (simp; omega)) | (focus (simp; done))))⟩
    · obtain ⟨x, hX, x0', x1', hmid⟩ := fill_ok t0 l0 l1 n1 (by omega) r1 m0 m1 (by omega : t ≤ m) (by omega : l2 ≤ n)
      have HX := Lib.hid hX
      have hn0 : 0 ≤ n := by omega
      obtain ⟨y, hY1, hY2⟩ := hmid ((l2 + n) / 2) (by omega) (by omega)
      have HY1 := Lib.hid hY1
      have HY2 := Lib.hid hY2
      have heq : ∀ w, (binOp .eql 24 (.agg #[.int .i64 x, .int .i64 n]) (.agg #[.int .i64 x, .int .i64 n])).run Try.prog w = .ok (.bool true) w := fun w => by have := bk_eql ⟨x, n⟩ ⟨x, n⟩ w; simpa using this
      have hnn : (n == n) = true := by simp
      have hxt : decide (t ≤ x) = true := by simpa using x0'
      have hxm : decide (x ≤ m) = true := by simpa using x1'
      have h1 : ¬ r < 0 := by omega
      have h2 : ¬ m < t := by omega
      have h3 : ¬ n < l2 := by omega
      clear hbad hX hY1 hY2 hmid
      go_wp2_with fail
      refine (implFill_any ⟨t, l2⟩ n r m _).mono ?_
      rw [HX.out]
      rintro e w2 ⟨rfl, hb2⟩
      replace L3 := Loc.carryB L3 (fun h => by ((repeat (first | with_reducible exact h | with_reducible refine Loc.drew ?_ | with_reducible refine Loc.drewN ?_ _ | with_reducible refine Loc.alloc ?_ _)); done)) hb2
      have HB2 : Hid (Below w.heap.size w w2) := Lib.hid (Below.next (W := w) (by repeat (first | with_reducible exact HB1.out | with_reducible exact Below.refl _ _ | with_reducible refine below_drewN ?_ _ | with_reducible refine Below.drew ?_ | with_reducible refine Below.alloc ?_ ?_ _ | with_reducible refine Below.setCell ?_ ?_ _ | (with_reducible refine Below.next ?_ (by assumption)) | ((with_reducible refine Below.far' (by assumption) ?_ ?_ ?_); (focus (first | omega | (simp; omega) | (simp; done))); (focus (first | omega | (simp; omega) | (simp; done)))) | omega | (focus (simp; omega)) | (focus (simp; done)))) hb2)
      have L7 := Loc.newAt w2 [.int .i64 x, .int .i64 n] 24 (b := w2.heap.size) rfl
      have hz2 := hb2.size
      simp at hz2
      clear hb2
      go_wp2
      obtain ⟨x0, x1, xf⟩ := L3.two
      have z3 := L3.lt
      have hne : ∀ w, (binOp .neq 24 (.agg #[.int .i64 x, .int .i64 n]) (.agg #[.int .i64 x, .int .i64 n])).run Try.prog w = .ok (.bool false) w := fun w => by have := bk_neq ⟨x, n⟩ ⟨x, n⟩ w; simpa using this
      have hgd := bk_guard
      go_region_held3 (fun w' => w'.cell? ⟨w1.heap.size, 0, none⟩ = some (.int .i64 t) ∧ w'.cell? ⟨w1.heap.size, 1, none⟩ = some (.int .i64 l2) ∧ w'.cell? ⟨w2.heap.size, 0, none⟩ = some (.int .i64 x) ∧ w'.cell? ⟨w2.heap.size, 1, none⟩ = some (.int .i64 n)) (first | assumption | (refine ⟨?_, ?_, ?_, ?_⟩ <;> assumption) | (refine ⟨?_, ?_, ?_, ?_⟩ <;> (simp [go_sem, *]; done)) | go_keep)
        ((go_at_call 10; (with_reducible refine (specFill_any ⟨t, l2⟩ n r m _).mono ?_); rw [HX.out]; rintro e w3 ⟨rfl, hb3⟩; have L33 := Loc.carryB L3 (fun h => by ((repeat (first | with_reducible exact h | with_reducible refine Loc.drew ?_ | with_reducible refine Loc.drewN ?_ _ | with_reducible refine Loc.alloc ?_ _)); done)) hb3; have L73 := Loc.carryB L7 (fun h => by ((repeat (first | with_reducible exact h | with_reducible refine Loc.drew ?_ | with_reducible refine Loc.drewN ?_ _ | with_reducible refine Loc.alloc ?_ _)); done)) hb3; obtain ⟨y0, y1, yf⟩ := L33.two; obtain ⟨u0, u1, uf⟩ := L73.two; have HB3 : Hid (Below w.heap.size w w3) := Lib.hid (Below.next (W := w) (by repeat (first | with_reducible exact HB2.out | with_reducible exact Below.refl _ _ | with_reducible refine below_drewN ?_ _ | with_reducible refine Below.drew ?_ | with_reducible refine Below.alloc ?_ ?_ _ | with_reducible refine Below.setCell ?_ ?_ _ | (with_reducible refine Below.next ?_ (by assumption)) | ((with_reducible refine Below.far' (by assumption) ?_ ?_ ?_); (focus (first | omega | (simp; omega) | (simp; done))); (focus (first | omega | (simp; omega) | (simp; done)))) | omega | (focus (simp; omega)) | (focus (simp; done)))) hb3); have hz3 := hb3.size; (try simp at hz3); have z33 := L33.lt; have z73 := L73.lt; clear hb3))
      all_goals clear x0 x1 xf hne
      go_wp2
      go_region_held3 (fun w' => w'.cell? ⟨w1.heap.size, 0, none⟩ = some (.int .i64 t) ∧ w'.cell? ⟨w1.heap.size, 1, none⟩ = some (.int .i64 l2) ∧ w'.cell? ⟨w2.heap.size, 0, none⟩ = some (.int .i64 x) ∧ w'.cell? ⟨w2.heap.size, 1, none⟩ = some (.int .i64 n)) (first | assumption | (refine ⟨?_, ?_, ?_, ?_⟩ <;> assumption) | (refine ⟨?_, ?_, ?_, ?_⟩ <;> (simp [go_sem, *]; done)) | go_keep)
        (first
          | (go_at_call 12; (with_reducible refine (implFill_any ⟨t, l2⟩ ((l2 + n) / 2) r m _).mono ?_); rw [HY1.out]; rintro e w4 ⟨rfl, hb4⟩; have L34 := Loc.carryB L33 (fun h => by ((repeat (first | with_reducible exact h | with_reducible refine Loc.drew ?_ | with_reducible refine Loc.drewN ?_ _ | with_reducible refine Loc.alloc ?_ _)); done)) hb4; have L74 := Loc.carryB L73 (fun h => by ((repeat (first | with_reducible exact h | with_reducible refine Loc.drew ?_ | with_reducible refine Loc.drewN ?_ _ | with_reducible refine Loc.alloc ?_ _)); done)) hb4; obtain ⟨v0, v1, vf⟩ := L34.two; obtain ⟨q0, q1, qf⟩ := L74.two; have HB4 : Hid (Below w.heap.size w w4) := Lib.hid (Below.next (W := w) (by repeat (first | with_reducible exact HB3.out | with_reducible exact Below.refl _ _ | with_reducible refine below_drewN ?_ _ | with_reducible refine Below.drew ?_ | with_reducible refine Below.alloc ?_ ?_ _ | with_reducible refine Below.setCell ?_ ?_ _ | (with_reducible refine Below.next ?_ (by assumption)) | ((with_reducible refine Below.far' (by assumption) ?_ ?_ ?_); (focus (first | omega | (simp; omega) | (simp; done))); (focus (first | omega | (simp; omega) | (simp; done)))) | omega | (focus (simp; omega)) | (focus (simp; done)))) hb4); clear hb4)
          | (go_at_call 12; (with_reducible refine (implFill_any ⟨y, (l2 + n) / 2⟩ n r m _).mono ?_); rw [HY2.out]; rintro e w5 ⟨rfl, hb5⟩; have L35 := Loc.carryB L34 (fun h => by ((repeat (first | with_reducible exact h | with_reducible refine Loc.drew ?_ | with_reducible refine Loc.drewN ?_ _ | with_reducible refine Loc.alloc ?_ _)); done)) hb5; have L75 := Loc.carryB L74 (fun h => by ((repeat (first | with_reducible exact h | with_reducible refine Loc.drew ?_ | with_reducible refine Loc.drewN ?_ _ | with_reducible refine Loc.alloc ?_ _)); done)) hb5; obtain ⟨i0, i1, if0⟩ := L35.two; obtain ⟨j0, j1, jf⟩ := L75.two; have HB5 : Hid (Below w.heap.size w w5) := Lib.hid (Below.next (W := w) (by repeat (first | with_reducible exact HB4.out | with_reducible exact Below.refl _ _ | with_reducible refine below_drewN ?_ _ | with_reducible refine Below.drew ?_ | with_reducible refine Below.alloc ?_ ?_ _ | with_reducible refine Below.setCell ?_ ?_ _ | (with_reducible refine Below.next ?_ (by assumption)) | ((with_reducible refine Below.far' (by assumption) ?_ ?_ ?_); (focus (first | omega | (simp; omega) | (simp; done))); (focus (first | omega | (simp; omega) | (simp; done)))) | omega | (focus (simp; omega)) | (focus (simp; done)))) hb5); clear hb5))
      all_goals
        go_wp2
        go_ret
        exact ⟨rfl, HB5.out⟩
set_option maxRecDepth 100000 in
theorem lifted (os : Os) (started : os.Started) (H : Type) (enc : TypeId × Value → H) :
    ReturnsInHanded {} Try.checked os 6 .any (Rows.fnFillBucketSpec.pre6 enc Try.prog Try.f6 Rows.fnFillBucketRow.domain false) (Rows.fnFillBucketSpec.post enc Try.prog Try.f6 false true false false) := by
  refine returnsInHanded_of_change (C := Try.checked) own_knob started (by kernel_rfl) Try.func6
    (ChangeSpec.witness6 (enc := enc) (C := Try.checked) false ⟨#[], #[.slice none 0 0], []⟩ 8 (by kernel_rfl) (by kernel_rfl) (by kernel_rfl) (by kernel_rfl)) ?_
  intro W base args ds gs before hval0 hW hcnd _
  have hval : ∀ (j : Nat) t v, Try.f6.params[j]? = some t → args[j]? = some v → Value.okWide Try.prog W .any base t v := hval0
  have hW' := hW
  obtain ⟨p, q, hA0, hV, rfl, hfz, hnd⟩ := hW
  have hA : DataW.TrodAll enc Try.prog W 0 (fun _ => true) true Try.f6.params.toList args.toList ds p := hA0
  rw [Try.params6] at hA hval
  obtain ⟨v0, vs0, d0, ds0, p0, q0, hargs, rfl, rfl, h0, r0⟩ := trodAll_cons hA
  obtain ⟨rfl, rfl, rfl⟩ := trodAll_nil r0
  obtain rfl : args = #[v0] := by cases args; simp_all
  obtain ⟨rfl, rfl⟩ := trodVars_none hV
  have k0 := h0
  have lt0 : ∀ x ∈ p0, x.block < W.heap.size := by obtain ⟨m, hm⟩ := k0; exact DataW.trod_lt m _ _ _ hm
  obtain ⟨A0, c0, l0, rfl, hl0, hm0, rd0, by0⟩ := open_bytes Try.underlying32 Try.underlying5 (by kernel_rfl) (hval 0 32 v0 rfl rfl) h0
  clear hA0 hval0
  refine (walk A0 c0 l0 W hl0 hm0 rd0 by0).mono fun e W' ⟨he, bel⟩ => ?_
  subst he
  exact ⟨_, rfl, _, _, _, [], _, [], hW', trodAll_mk1 (shut_bool Try.underlying4 _), (trodAll_cons_mk (Below.trod laid_out (by kernel_rfl) (of_decide_eq_true (by kernel_rfl)) k0 bel lt0) trodAll_mk0), rfl, bel.frame _, fun h => by cases h⟩
theorem over : Rows.fnFillBucketRow.holds Try.pinned (OpenSpec.ofChange Rows.fnFillBucketSpec) :=
  OpenClaim.holds_of_wide 6 Try.f6 rfl rfl rfl rfl rfl rfl rfl ⟨rfl, rfl, rfl, rfl, rfl⟩ rfl rfl rfl rfl rfl (by kernel_rfl) Try.func6 (by kernel_rfl)
    (of_decide_eq_true (by kernel_rfl)) (by unfold Func.isWrapper; first | (rw [if_pos (by decide +kernel)]; kernel_rfl) | (rw [if_neg (by decide +kernel)]; exact ⟨rfl, rfl⟩))
    (fun os started H enc _ => lifted os started H enc)
theorem proved : Rows.FnFillBucketSaid := over
end LwFb
end Go.Proofs.Ytmgbenfmhgkogaa
