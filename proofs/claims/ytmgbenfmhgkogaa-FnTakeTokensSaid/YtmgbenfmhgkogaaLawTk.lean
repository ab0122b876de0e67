/-
  FnTakeTokens: taken tokens are gone. No condition.
-/
import Derived.Test.YtmgbenfmhgkogaaBase
import Derived.Test.YtmgbenfmhgkogaaNum
import Derived.Test.YtmgbenfmhgkogaaInts
import Derived.Test.YtmgbenfmhgkogaaApp
import Derived.Test.YtmgbenfmhgkogaaIntsW
import Derived.Test.YtmgbenfmhgkogaaLib
import Derived.Test.YtmgbenfmhgkogaaBucket
import Derived.Test.YtmgbenfmhgkogaaDraw
import Derived.Test.YtmgbenfmhgkogaaDrawK
import Derived.Test.YtmgbenfmhgkogaaOwn
import Derived.Test.YtmgbenfmhgkogaaDrawTb
import Derived.Test.YtmgbenfmhgkogaaDrawTk
import Derived.Test.YtmgbenfmhgkogaaOpen
import Derived.Test.YtmgbenfmhgkogaaGrant
import Derived.Test.YtmgbenfmhgkogaaGrantP
import Derived.IntWalk
namespace Go.Proofs.Ytmgbenfmhgkogaa
open Go.RowKit Go.ChangeShapes Go.WideShapes Go.ChangeAt Go.Deep Go.Joins
theorem takeB_le (b : Bk) (n : Int) (h : 0 ≤ b.t) : (takeB b n).t ≤ b.t := by
  unfold takeB
  split
  · rename_i hi
    have := inB_true.1 hi
    split
    · exact Int.le_refl _
    · simp only; omega
  · simp only; exact h
theorem takeB_out {b : Bk} {n : Int} (h : inB n 0 1000 = false) : takeB b n = ⟨0, 0⟩ ∧ takeOk b n = false := by simp [takeB, takeOk, h]
theorem takeB_few {t l n : Int} (h : inB n 0 1000 = true) (hn : t < n) : takeB ⟨t, l⟩ n = ⟨t, l⟩ ∧ takeOk ⟨t, l⟩ n = false := by
  have : ¬ n ≤ t := by omega
  simp [takeB, takeOk, h, hn, this]
theorem takeB_many {t l n : Int} (h : inB n 0 1000 = true) (hn : n ≤ t) : takeB ⟨t, l⟩ n = ⟨t - n, l⟩ ∧ takeOk ⟨t, l⟩ n = true := by
  have : ¬ t < n := by omega
  simp [takeB, takeOk, h, hn, this]
namespace LwTk
set_option maxHeartbeats 8000000 in
theorem walk (A : Option Addr) (c : Nat) (l : List Int) (w : World) (hl : l.length ≤ c) (hm : c ≤ maxLen) (hr : Rd eByte w A l) (hb : ∀ x ∈ l, 0 ≤ x ∧ x ≤ 255) :
    Calls Try.prog 5 #[.slice A l.length c] w fun e w' => e = .returned (.bool true) ∧ Below w.heap.size w w' := by
  have HB := Lib.hid hb
  clear hb
  by_cases hsz : (1048576 : Int) < l.length
  · unfold maxLen at hm
    go_enter Try.func5, Try.ntmps5
    go_wp2
    go_ret
    exact ⟨rfl, (by repeat (first | with_reducible exact Below.refl _ _ | with_reducible assumption | with_reducible refine below_drewN ?_ _ | with_reducible refine Below.drew ?_ | with_reducible refine Below.alloc ?_ ?_ _ | with_reducible refine Below.setCell ?_ ?_ _ | (with_reducible refine Below.next ?_ (by assumption)) | omega | (focus (simp; omega)) | (focus (simp; done))))⟩
  · go_enter Try.func5, Try.ntmps5
    go_wp2_with fail
    refine (drawTake_any A c l _ hl hm hr HB.out).mono ?_
    rintro e w1 ⟨⟨t, l2⟩, n, rfl, t0, t1, l0, l1, n0, n1, hb1⟩
    simp only at t0 t1 l0 l1
    have hz1 := hb1.size
    cases hi : inB n 0 1000
    · have HX := Lib.hid (takeB_out (b := ⟨t, l2⟩) hi).1
      have HK := Lib.hid (takeB_out (b := ⟨t, l2⟩) hi).2
      have heq : ∀ w, (binOp .eql 24 (.agg #[.int .i64 0, .int .i64 0]) (.agg #[.int .i64 0, .int .i64 0])).run Try.prog w = .ok (.bool true) w := fun w => by have := bk_eql ⟨0, 0⟩ ⟨0, 0⟩ w; simpa using this
      rcases inB_false.1 hi with hlt | hlt
      all_goals
        clear hi
        have hne : ∀ w, (binOp .neq 24 (.agg #[.int .i64 0, .int .i64 0]) (.agg #[.int .i64 0, .int .i64 0])).run Try.prog w = .ok (.bool false) w := fun w => by have := bk_neq ⟨0, 0⟩ ⟨0, 0⟩ w; simpa using this
        have hgd := bk_guard
        go_wp2_with fail
        refine (implTake_any ⟨t, l2⟩ n (by simp only; omega) _).mono ?_
        rw [HX.out, HK.out]
        rintro e w2 ⟨rfl, hb2⟩
        obtain ⟨hc2, hf2⟩ := bcell hb2
        have hz2 := hb2.size
        simp at hz2
        have z1_2 : w1.heap.size < w2.heap.size := by omega
        go_wp2_with fail
        refine (specTake_any ⟨t, l2⟩ n (by simp only; omega) _).mono ?_
        rw [HX.out, HK.out]
        rintro e w3 ⟨rfl, hb3⟩
        obtain ⟨hc3, hf3⟩ := bcell hb3
        have hz3 := hb3.size
        simp at hz3
        have z1_3 : w1.heap.size < w3.heap.size := by omega
        have z2_3 : w2.heap.size < w3.heap.size := by omega
        go_wp2_with (go_at_call 17; refine (alive_any _).mono ?_; rintro e w6 ⟨rfl, hb6⟩)
        go_ret
        exact ⟨rfl, (by repeat (first | with_reducible exact Below.refl _ _ | with_reducible assumption | with_reducible refine below_drewN ?_ _ | with_reducible refine Below.drew ?_ | with_reducible refine Below.alloc ?_ ?_ _ | with_reducible refine Below.setCell ?_ ?_ _ | (with_reducible refine Below.next ?_ (by assumption)) | omega | (focus (simp; omega)) | (focus (simp; done))))⟩
    · obtain ⟨m0, m1⟩ := inB_true.1 hi
      have hi2 : inB (n / 2) 0 1000 = true := inB_true.2 (by omega)
      have hi3 : inB (n - n / 2) 0 1000 = true := inB_true.2 (by omega)
      have hq0 : 0 ≤ n / 2 := by omega
      have hq1 : n / 2 ≤ n := by omega
      by_cases hlt : t < n
      · have HX := Lib.hid (takeB_few (l := l2) hi hlt).1
        have HK := Lib.hid (takeB_few (l := l2) hi hlt).2
        have hge : decide (n ≤ t) = false := by simp; omega
        have hle := takeB_le ⟨t, l2⟩ (n / 2) t0
        obtain ⟨cc, hcc⟩ : ∃ cc, cc = takeB ⟨t, l2⟩ (n / 2) := ⟨_, rfl⟩
        obtain ⟨ck, hck⟩ : ∃ ck, ck = takeOk ⟨t, l2⟩ (n / 2) := ⟨_, rfl⟩
        rw [← hcc] at hle
        obtain ⟨ct, cl⟩ := cc
        simp only at hle
        have HC : Hid (Ending.returned (.tuple #[.agg #[.int .i64 (takeB ⟨t, l2⟩ (n / 2)).t, .int .i64 (takeB ⟨t, l2⟩ (n / 2)).l], .bool (takeOk ⟨t, l2⟩ (n / 2))]) = .returned (.tuple #[.agg #[.int .i64 ct, .int .i64 cl], .bool ck])) := Lib.hid (by rw [← hcc, ← hck])
        obtain ⟨dd, hdd⟩ : ∃ dd, dd = takeB ⟨ct, cl⟩ (n - n / 2) := ⟨_, rfl⟩
        obtain ⟨dk, hdk⟩ : ∃ dk, dk = takeOk ⟨ct, cl⟩ (n - n / 2) := ⟨_, rfl⟩
        obtain ⟨dt, dl⟩ := dd
        have HD : Hid (Ending.returned (.tuple #[.agg #[.int .i64 (takeB ⟨ct, cl⟩ (n - n / 2)).t, .int .i64 (takeB ⟨ct, cl⟩ (n - n / 2)).l], .bool (takeOk ⟨ct, cl⟩ (n - n / 2))]) = .returned (.tuple #[.agg #[.int .i64 dt, .int .i64 dl], .bool dk])) := Lib.hid (by rw [← hdd, ← hdk])
        have heq : ∀ w, (binOp .eql 24 (.agg #[.int .i64 t, .int .i64 l2]) (.agg #[.int .i64 t, .int .i64 l2])).run Try.prog w = .ok (.bool true) w := fun w => by have := bk_eql ⟨t, l2⟩ ⟨t, l2⟩ w; simpa using this
        have hll : (l2 == l2) = true := by simp
        clear hcc hck hdd hdk hi hi2 hi3
        have hne : ∀ w, (binOp .neq 24 (.agg #[.int .i64 t, .int .i64 l2]) (.agg #[.int .i64 t, .int .i64 l2])).run Try.prog w = .ok (.bool false) w := fun w => by have := bk_neq ⟨t, l2⟩ ⟨t, l2⟩ w; simpa using this
        have hgd := bk_guard
        go_wp2_with fail
        refine (implTake_any ⟨t, l2⟩ n (by simp only; omega) _).mono ?_
        rw [HX.out, HK.out]
        rintro e w2 ⟨rfl, hb2⟩
        obtain ⟨hc2, hf2⟩ := bcell hb2
        have hz2 := hb2.size
        simp at hz2
        have z1_2 : w1.heap.size < w2.heap.size := by omega
        go_wp2_with fail
        refine (specTake_any ⟨t, l2⟩ n (by simp only; omega) _).mono ?_
        rw [HX.out, HK.out]
        rintro e w3 ⟨rfl, hb3⟩
        obtain ⟨hc3, hf3⟩ := bcell hb3
        have hz3 := hb3.size
        simp at hz3
        have z1_3 : w1.heap.size < w3.heap.size := by omega
        have z2_3 : w2.heap.size < w3.heap.size := by omega
        go_wp2_with fail
        refine (implTake_any ⟨t, l2⟩ (n / 2) (by simp only; omega) _).mono ?_
        rw [HC.out]
        rintro e w4 ⟨rfl, hb4⟩
        obtain ⟨hc4, hf4⟩ := bcell hb4
        have hz4 := hb4.size
        simp at hz4
        have z1_4 : w1.heap.size < w4.heap.size := by omega
        have z2_4 : w2.heap.size < w4.heap.size := by omega
        have z3_4 : w3.heap.size < w4.heap.size := by omega
        go_wp2_with fail
        refine (implTake_any ⟨ct, cl⟩ (n - n / 2) (by simp only; omega) _).mono ?_
        rw [HD.out]
        rintro e w5 ⟨rfl, hb5⟩
        obtain ⟨hc5, hf5⟩ := bcell hb5
        have hz5 := hb5.size
        simp at hz5
        have z1_5 : w1.heap.size < w5.heap.size := by omega
        have z2_5 : w2.heap.size < w5.heap.size := by omega
        have z3_5 : w3.heap.size < w5.heap.size := by omega
        have z4_5 : w4.heap.size < w5.heap.size := by omega
        go_wp2
        go_ret
        exact ⟨rfl, (by repeat (first | with_reducible exact Below.refl _ _ | with_reducible assumption | with_reducible refine below_drewN ?_ _ | with_reducible refine Below.drew ?_ | with_reducible refine Below.alloc ?_ ?_ _ | with_reducible refine Below.setCell ?_ ?_ _ | (with_reducible refine Below.next ?_ (by assumption)) | omega | (focus (simp; omega)) | (focus (simp; done))))⟩
      · have HX := Lib.hid (takeB_many (l := l2) hi (by omega : n ≤ t)).1
        have HK := Lib.hid (takeB_many (l := l2) hi (by omega : n ≤ t)).2
        have HC1 := Lib.hid (takeB_many (l := l2) hi2 (by omega : n / 2 ≤ t)).1
        have HC2 := Lib.hid (takeB_many (l := l2) hi2 (by omega : n / 2 ≤ t)).2
        have HD1 := Lib.hid (takeB_many (l := l2) hi3 (by omega : n - n / 2 ≤ t - n / 2)).1
        have HD2 := Lib.hid (takeB_many (l := l2) hi3 (by omega : n - n / 2 ≤ t - n / 2)).2
        have hge : decide (n ≤ t) = true := by simp; omega
        have hee : t - n / 2 - (n - n / 2) = t - n := by omega
        have heq : ∀ w, (binOp .eql 24 (.agg #[.int .i64 (t - n), .int .i64 l2]) (.agg #[.int .i64 (t - n), .int .i64 l2])).run Try.prog w = .ok (.bool true) w := fun w => by have := bk_eql ⟨t - n, l2⟩ ⟨t - n, l2⟩ w; simpa using this
        have hll : (l2 == l2) = true := by simp
        have htt : (t - n == t - n) = true := by simp
        rw [hee] at HD1
        clear hi hi2 hi3 hee
        have hne : ∀ w, (binOp .neq 24 (.agg #[.int .i64 (t - n), .int .i64 l2]) (.agg #[.int .i64 (t - n), .int .i64 l2])).run Try.prog w = .ok (.bool false) w := fun w => by have := bk_neq ⟨(t - n), l2⟩ ⟨(t - n), l2⟩ w; simpa using this
        have hgd := bk_guard
        go_wp2_with fail
        refine (implTake_any ⟨t, l2⟩ n (by simp only; omega) _).mono ?_
        rw [HX.out, HK.out]
        rintro e w2 ⟨rfl, hb2⟩
        obtain ⟨hc2, hf2⟩ := bcell hb2
        have hz2 := hb2.size
        simp at hz2
        have z1_2 : w1.heap.size < w2.heap.size := by omega
        go_wp2_with fail
        refine (specTake_any ⟨t, l2⟩ n (by simp only; omega) _).mono ?_
        rw [HX.out, HK.out]
        rintro e w3 ⟨rfl, hb3⟩
        obtain ⟨hc3, hf3⟩ := bcell hb3
        have hz3 := hb3.size
        simp at hz3
        have z1_3 : w1.heap.size < w3.heap.size := by omega
        have z2_3 : w2.heap.size < w3.heap.size := by omega
        go_wp2_with fail
        refine (implTake_any ⟨t, l2⟩ (n / 2) (by simp only; omega) _).mono ?_
        rw [HC1.out, HC2.out]
        rintro e w4 ⟨rfl, hb4⟩
        obtain ⟨hc4, hf4⟩ := bcell hb4
        have hz4 := hb4.size
        simp at hz4
        have z1_4 : w1.heap.size < w4.heap.size := by omega
        have z2_4 : w2.heap.size < w4.heap.size := by omega
        have z3_4 : w3.heap.size < w4.heap.size := by omega
        go_wp2_with fail
        refine (implTake_any ⟨t - n / 2, l2⟩ (n - n / 2) (by simp only; omega) _).mono ?_
        rw [HD1.out, HD2.out]
        rintro e w5 ⟨rfl, hb5⟩
        obtain ⟨hc5, hf5⟩ := bcell hb5
        have hz5 := hb5.size
        simp at hz5
        have z1_5 : w1.heap.size < w5.heap.size := by omega
        have z2_5 : w2.heap.size < w5.heap.size := by omega
        have z3_5 : w3.heap.size < w5.heap.size := by omega
        have z4_5 : w4.heap.size < w5.heap.size := by omega
        go_wp2
        go_ret
        exact ⟨rfl, (by repeat (first | with_reducible exact Below.refl _ _ | with_reducible assumption | with_reducible refine below_drewN ?_ _ | with_reducible refine Below.drew ?_ | with_reducible refine Below.alloc ?_ ?_ _ | with_reducible refine Below.setCell ?_ ?_ _ | (with_reducible refine Below.next ?_ (by assumption)) | omega | (focus (simp; omega)) | (focus (simp; done))))⟩
set_option maxRecDepth 100000 in
theorem lifted (os : Os) (started : os.Started) (H : Type) (enc : TypeId × Value → H) :
    ReturnsInHanded {} Try.checked os 5 .any (Rows.fnTakeTokensSpec.pre6 enc Try.prog Try.f5 Rows.fnTakeTokensRow.domain false) (Rows.fnTakeTokensSpec.post enc Try.prog Try.f5 false true false false) := by
  refine returnsInHanded_of_change (C := Try.checked) own_knob started (by kernel_rfl) Try.func5
    (ChangeSpec.witness6 (enc := enc) (C := Try.checked) false ⟨#[], #[.slice none 0 0], []⟩ 8 (by kernel_rfl) (by kernel_rfl) (by kernel_rfl) (by kernel_rfl)) ?_
  intro W base args ds gs before hval0 hW hcnd _
  have hval : ∀ (j : Nat) t v, Try.f5.params[j]? = some t → args[j]? = some v → Value.okWide Try.prog W .any base t v := hval0
  have hW' := hW
  obtain ⟨p, q, hA0, hV, rfl, hfz, hnd⟩ := hW
  have hA : DataW.TrodAll enc Try.prog W 0 (fun _ => true) true Try.f5.params.toList args.toList ds p := hA0
  rw [Try.params5] at hA hval
  obtain ⟨v0, vs0, d0, ds0, p0, q0, hargs, rfl, rfl, h0, r0⟩ := trodAll_cons hA
  obtain ⟨rfl, rfl, rfl⟩ := trodAll_nil r0
  obtain rfl : args = #[v0] := by cases args; simp_all
  obtain ⟨rfl, rfl⟩ := trodVars_none hV
  have k0 := h0
  have lt0 : ∀ x ∈ p0, x.block < W.heap.size := by obtain ⟨m, hm⟩ := k0; exact DataW.trod_lt m _ _ _ hm
  obtain ⟨A0, c0, l0, rfl, hl0, hm0, rd0, by0⟩ := open_bytes Try.underlying32 Try.underlying5 (by kernel_rfl) (hval 0 32 v0 rfl rfl) h0
  clear hA0 hval0
  refine (walk A0 c0 l0 W hl0 hm0 rd0 by0).mono fun e W' ⟨he, bel⟩ => ?_
  subst he
  exact ⟨_, rfl, _, _, _, [], _, [], hW', trodAll_mk1 (shut_bool Try.underlying4 _), (trodAll_cons_mk (Below.trod laid_out (by kernel_rfl) (of_decide_eq_true (by kernel_rfl)) k0 bel lt0) trodAll_mk0), rfl, bel.frame _, fun h => by cases h⟩
theorem over : Rows.fnTakeTokensRow.holds Try.pinned (OpenSpec.ofChange Rows.fnTakeTokensSpec) :=
  OpenClaim.holds_of_wide 5 Try.f5 rfl rfl rfl rfl rfl rfl rfl ⟨rfl, rfl, rfl, rfl, rfl⟩ rfl rfl rfl rfl rfl (by kernel_rfl) Try.func5 (by kernel_rfl)
    (of_decide_eq_true (by kernel_rfl)) (by unfold Func.isWrapper; first | (rw [if_pos (by decide +kernel)]; kernel_rfl) | (rw [if_neg (by decide +kernel)]; exact ⟨rfl, rfl⟩))
    (fun os started H enc _ => lifted os started H enc)
theorem proved : Rows.FnTakeTokensSaid := over
end LwTk
end Go.Proofs.Ytmgbenfmhgkogaa
