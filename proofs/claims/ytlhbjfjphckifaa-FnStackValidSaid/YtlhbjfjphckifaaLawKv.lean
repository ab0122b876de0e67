/-
  FnStackValid: a valid stack without partitions is valid; with a cache that may have no lines it is not. No condition.
-/
import Derived.Test.YtlhbjfjphckifaaBase
import Derived.Test.YtlhbjfjphckifaaNum
import Derived.Test.YtlhbjfjphckifaaInts
import Derived.Test.YtlhbjfjphckifaaApp
import Derived.Test.YtlhbjfjphckifaaIntsW
import Derived.Test.YtlhbjfjphckifaaLib
import Derived.Test.YtlhbjfjphckifaaSpares
import Derived.Test.YtlhbjfjphckifaaOwn
import Derived.Test.YtlhbjfjphckifaaPart
import Derived.Test.YtlhbjfjphckifaaLine
import Derived.Test.YtlhbjfjphckifaaStack
import Derived.Test.YtlhbjfjphckifaaStackM
import Derived.Test.YtlhbjfjphckifaaStackC
import Derived.Test.YtlhbjfjphckifaaStackF
import Derived.Test.YtlhbjfjphckifaaStackS
import Derived.Test.YtlhbjfjphckifaaStackU
import Derived.Test.YtlhbjfjphckifaaDraw
import Derived.Test.YtlhbjfjphckifaaDrawK
import Derived.Test.YtlhbjfjphckifaaDrawD
import Derived.Test.YtlhbjfjphckifaaDrawSt
import Derived.Test.YtlhbjfjphckifaaDrawStk
import Derived.Test.YtlhbjfjphckifaaDrawStl
import Derived.Test.YtlhbjfjphckifaaOpen
import Derived.IntWalk
namespace Go.Proofs.Ytlhbjfjphckifaa
open Go.RowKit Go.ChangeShapes Go.WideShapes Go.ChangeAt Go.Deep Go.Joins
namespace LwKv
theorem noParts {t : Stk} (h : stackB t = true) : stackB ⟨t.dsk, [], t.lns, t.mst⟩ = true := by
  obtain ⟨h1, h2, h3⟩ := stack_true.1 h
  refine stack_true.2 ⟨h1, parts_yes (by simp) (parts_true.1 h2).2.1 rfl, h3⟩
theorem noCache (d : List Int) (p : List Pt) : stackB ⟨d, p, [], 0⟩ = false := by
  refine stack_no3 (cache_no2 ?_)
  rfl
theorem rd_noParts {w : World} {A0 A1 A2 : Option Addr} {n0 n1 n2 c0 c1 c2 : Nat} {t : Stk} (h : StackRd w [.slice A0 n0 c0, .slice A1 n1 c1, .slice A2 n2 c2, .int .i64 t.mst] t) : StackRd w [.slice A0 n0 c0, .slice none 0 0, .slice A2 n2 c2, .int .i64 t.mst] ⟨t.dsk, [], t.lns, t.mst⟩ := by
  obtain ⟨u, v, y, h1, h2, h3, h4⟩ := h
  simp only [List.cons.injEq, and_true] at h1
  obtain ⟨rfl, rfl, rfl⟩ := h1
  exact ⟨_, _, _, rfl, h2, SOwn.rd (SOwn.nil0 (e := 3) w 0 0), h4⟩
theorem rd_noCache {w : World} {A0 A1 A2 : Option Addr} {n0 n1 n2 c0 c1 c2 : Nat} {t : Stk} {m : Value} (h : StackRd w [.slice A0 n0 c0, .slice A1 n1 c1, .slice A2 n2 c2, m] t) : StackRd w [.slice A0 n0 c0, .slice A1 n1 c1, .slice none 0 0, .int .i64 0] ⟨t.dsk, t.prt, [], 0⟩ := by
  obtain ⟨u, v, y, h1, h2, h3, h4⟩ := h
  simp only [List.cons.injEq, and_true] at h1
  obtain ⟨rfl, rfl, rfl, -⟩ := h1
  exact ⟨_, _, _, rfl, h2, h3, SOwn.rd (SOwn.nil0 (e := 3) w 0 0)⟩
set_option maxHeartbeats 8000000 in
theorem walk (A : Option Addr) (c : Nat) (l : List Int) (w : World) (hl : l.length ≤ c) (hm : c ≤ maxLen) (hr : Rd eByte w A l) (hb : ∀ x ∈ l, 0 ≤ x ∧ x ≤ 255) :
    Calls Try.prog 6 #[.slice A l.length c] w fun e w' => e = .returned (.bool true) ∧ Below w.heap.size w w' := by
  have HB := Lib.hid hb
  clear hb
  by_cases hsz : (1048576 : Int) < l.length
  · unfold maxLen at hm
    go_enter Try.func6, Try.ntmps6
    go_wp2
    go_ret
    exact ⟨rfl, (by repeat (first | with_reducible exact Below.refl _ _ | with_reducible assumption | with_reducible refine below_drewN ?_ _ | with_reducible refine Below.drew ?_ | with_reducible refine Below.alloc ?_ ?_ _ | with_reducible refine Below.setCell ?_ ?_ _ | (with_reducible refine Below.next ?_ (by assumption)) | omega | (focus (simp; omega)) | (focus (simp; done))))⟩
  go_enter Try.func6, Try.ntmps6
  go_wp2_with fail
  refine (drawStv_any A c l _ hl hm hr HB.out).mono ?_
  rintro e w1 ⟨y0, y1, y2, y3, t, rfl, hown, hs60, hcnt, hb1⟩
  obtain ⟨A0, c0, A1, c1, A2, c2, e0, e1, e2, e3⟩ := id hown.rd.mst
  subst e0 e1 e2 e3
  have HCNT := Lib.hid hcnt
  have hz1 := hb1.size
  have HB1 := Lib.hid hb1
  have HS1 := Lib.hid (StackOwn.rd hown)
  have hszs : Hid (sizeStack t ≤ 1099511627776) := Lib.hid (by omega)
  have hs6 := hs60
  unfold sizeStack at hs6
  have LS := Loc.newAt w1 [.slice A0 t.dsk.length c0, .slice A1 t.prt.length c1, .slice A2 t.lns.length c2, .int .i64 t.mst] 35 (b := w1.heap.size) rfl
  clear hb1 hown hcnt hsz
  obtain ⟨ok, hok⟩ : ∃ ok, ok = stackB t := ⟨_, rfl⟩
  have HOK := Lib.hid hok
  clear hok
  go_wp2_with fail
  refine (implStack_c _ _ _ _ t _ (StackRd.below HS1.out (by repeat (first | with_reducible exact Below.refl _ _ | with_reducible refine below_drewN ?_ _ | with_reducible refine Below.drew ?_ | with_reducible refine Below.alloc ?_ ?_ _ | with_reducible refine Below.setCell ?_ ?_ _ | omega | (focus (simp; omega)) | (focus (simp; done))))) hszs.out).mono ?_
  rw [← HOK.out]
  rintro e w2 ⟨rfl, hb2⟩
  replace LS := Loc.carryB LS (fun h => by ((repeat (first | with_reducible exact h | with_reducible refine Loc.drew ?_ | with_reducible refine Loc.drewN ?_ _ | with_reducible refine Loc.alloc ?_ _)); done)) hb2
  (try clear s0 s1 s2 s3 sf)
  obtain ⟨s0, s1, s2, s3, sf⟩ := LS.four
  have zS2 := LS.lt
  have HB2 : Hid (Below w.heap.size w w2) := Lib.hid (Below.next (W := w) (by repeat (first | with_reducible exact HB1.out | with_reducible exact Below.refl _ _ | with_reducible refine below_drewN ?_ _ | with_reducible refine Below.drew ?_ | with_reducible refine Below.alloc ?_ ?_ _ | with_reducible refine Below.setCell ?_ ?_ _ | (with_reducible refine Below.next ?_ (by assumption)) | ((with_reducible refine Below.far' (by assumption) ?_ ?_ ?_); (focus (first | omega | (simp; omega) | (simp; done))); (focus (first | omega | (simp; omega) | (simp; done)))) | omega | (focus (simp; omega)) | (focus (simp; done)))) hb2)
  have HS2 := Lib.hid (StackRd.below HS1.out (Below.next (by repeat (first | with_reducible exact Below.refl _ _ | with_reducible refine below_drewN ?_ _ | with_reducible refine Below.drew ?_ | with_reducible refine Below.alloc ?_ ?_ _ | with_reducible refine Below.setCell ?_ ?_ _ | omega | (focus (simp; omega)) | (focus (simp; done)))) hb2))
  have hz2 := hb2.size
  (try simp at hz2)
  clear hb2
  go_wp2_with fail
  refine (specStack_c _ _ _ _ t _ (StackRd.below HS2.out (by repeat (first | with_reducible exact Below.refl _ _ | with_reducible refine below_drewN ?_ _ | with_reducible refine Below.drew ?_ | with_reducible refine Below.alloc ?_ ?_ _ | with_reducible refine Below.setCell ?_ ?_ _ | omega | (focus (simp; omega)) | (focus (simp; done))))) hszs.out).mono ?_
  rw [← HOK.out]
  rintro e w3 ⟨rfl, hb3⟩
  replace LS := Loc.carryB LS (fun h => by ((repeat (first | with_reducible exact h | with_reducible refine Loc.drew ?_ | with_reducible refine Loc.drewN ?_ _ | with_reducible refine Loc.alloc ?_ _)); done)) hb3
  (try clear s0 s1 s2 s3 sf)
  obtain ⟨s0, s1, s2, s3, sf⟩ := LS.four
  have zS3 := LS.lt
  have HB3 : Hid (Below w.heap.size w w3) := Lib.hid (Below.next (W := w) (by repeat (first | with_reducible exact HB2.out | with_reducible exact Below.refl _ _ | with_reducible refine below_drewN ?_ _ | with_reducible refine Below.drew ?_ | with_reducible refine Below.alloc ?_ ?_ _ | with_reducible refine Below.setCell ?_ ?_ _ | (with_reducible refine Below.next ?_ (by assumption)) | ((with_reducible refine Below.far' (by assumption) ?_ ?_ ?_); (focus (first | omega | (simp; omega) | (simp; done))); (focus (first | omega | (simp; omega) | (simp; done)))) | omega | (focus (simp; omega)) | (focus (simp; done)))) hb3)
  have HS3 := Lib.hid (StackRd.below HS2.out (Below.next (by repeat (first | with_reducible exact Below.refl _ _ | with_reducible refine below_drewN ?_ _ | with_reducible refine Below.drew ?_ | with_reducible refine Below.alloc ?_ ?_ _ | with_reducible refine Below.setCell ?_ ?_ _ | omega | (focus (simp; omega)) | (focus (simp; done)))) hb3))
  have hz3 := hb3.size
  (try simp at hz3)
  clear hb3
  cases ok
  · go_wp2_with fail
    refine (implStack_c _ _ _ _ ⟨t.dsk, t.prt, [], 0⟩ _ (StackRd.below (rd_noCache HS3.out) (by repeat (first | with_reducible exact Below.refl _ _ | with_reducible refine below_drewN ?_ _ | with_reducible refine Below.drew ?_ | with_reducible refine Below.alloc ?_ ?_ _ | with_reducible refine Below.setCell ?_ ?_ _ | omega | (focus (simp; omega)) | (focus (simp; done))))) (by unfold sizeStack; simp; omega)).mono ?_
    rw [noCache]
    rintro e w4 ⟨rfl, hb4⟩
    replace LS := Loc.carryB LS (fun h => by ((repeat (first | with_reducible exact h | with_reducible refine Loc.drew ?_ | with_reducible refine Loc.drewN ?_ _ | with_reducible refine Loc.alloc ?_ _)); done)) hb4
    (try clear s0 s1 s2 s3 sf)
    obtain ⟨s0, s1, s2, s3, sf⟩ := LS.four
    have zS4 := LS.lt
    have HB4 : Hid (Below w.heap.size w w4) := Lib.hid (Below.next (W := w) (by repeat (first | with_reducible exact HB3.out | with_reducible exact Below.refl _ _ | with_reducible refine below_drewN ?_ _ | with_reducible refine Below.drew ?_ | with_reducible refine Below.alloc ?_ ?_ _ | with_reducible refine Below.setCell ?_ ?_ _ | (with_reducible refine Below.next ?_ (by assumption)) | ((with_reducible refine Below.far' (by assumption) ?_ ?_ ?_); (focus (first | omega | (simp; omega) | (simp; done))); (focus (first | omega | (simp; omega) | (simp; done)))) | omega | (focus (simp; omega)) | (focus (simp; done)))) hb4)
    have HS4 := Lib.hid (StackRd.below HS3.out (Below.next (by repeat (first | with_reducible exact Below.refl _ _ | with_reducible refine below_drewN ?_ _ | with_reducible refine Below.drew ?_ | with_reducible refine Below.alloc ?_ ?_ _ | with_reducible refine Below.setCell ?_ ?_ _ | omega | (focus (simp; omega)) | (focus (simp; done)))) hb4))
    have hz4 := hb4.size
    (try simp at hz4)
    clear hb4
    go_wp2_with (go_at_call 31; refine (alive_any _).mono ?_; rintro e w6 ⟨rfl, hb6⟩)
    go_ret
    exact ⟨rfl, Below.next (W := w) HB4.out hb6⟩
  · have HP := Lib.hid (noParts HOK.out.symm)
    go_wp2_with fail
    refine (implStack_c _ _ _ _ ⟨t.dsk, [], t.lns, t.mst⟩ _ (StackRd.below (rd_noParts HS3.out) (by repeat (first | with_reducible exact Below.refl _ _ | with_reducible refine below_drewN ?_ _ | with_reducible refine Below.drew ?_ | with_reducible refine Below.alloc ?_ ?_ _ | with_reducible refine Below.setCell ?_ ?_ _ | omega | (focus (simp; omega)) | (focus (simp; done))))) (by unfold sizeStack; simp; omega)).mono ?_
    rw [HP.out]
    rintro e w4 ⟨rfl, hb4⟩
    replace LS := Loc.carryB LS (fun h => by ((repeat (first | with_reducible exact h | with_reducible refine Loc.drew ?_ | with_reducible refine Loc.drewN ?_ _ | with_reducible refine Loc.alloc ?_ _)); done)) hb4
    (try clear s0 s1 s2 s3 sf)
    obtain ⟨s0, s1, s2, s3, sf⟩ := LS.four
    have zS4 := LS.lt
    have HB4 : Hid (Below w.heap.size w w4) := Lib.hid (Below.next (W := w) (by repeat (first | with_reducible exact HB3.out | with_reducible exact Below.refl _ _ | with_reducible refine below_drewN ?_ _ | with_reducible refine Below.drew ?_ | with_reducible refine Below.alloc ?_ ?_ _ | with_reducible refine Below.setCell ?_ ?_ _ | (with_reducible refine Below.next ?_ (by assumption)) | ((with_reducible refine Below.far' (by assumption) ?_ ?_ ?_); (focus (first | omega | (simp; omega) | (simp; done))); (focus (first | omega | (simp; omega) | (simp; done)))) | omega | (focus (simp; omega)) | (focus (simp; done)))) hb4)
    have HS4 := Lib.hid (StackRd.below HS3.out (Below.next (by repeat (first | with_reducible exact Below.refl _ _ | with_reducible refine below_drewN ?_ _ | with_reducible refine Below.drew ?_ | with_reducible refine Below.alloc ?_ ?_ _ | with_reducible refine Below.setCell ?_ ?_ _ | omega | (focus (simp; omega)) | (focus (simp; done)))) hb4))
    have hz4 := hb4.size
    (try simp at hz4)
    clear hb4
    go_wp2_with fail
    refine (implStack_c _ _ _ _ ⟨t.dsk, t.prt, [], 0⟩ _ (StackRd.below (rd_noCache HS4.out) (by repeat (first | with_reducible exact Below.refl _ _ | with_reducible refine below_drewN ?_ _ | with_reducible refine Below.drew ?_ | with_reducible refine Below.alloc ?_ ?_ _ | with_reducible refine Below.setCell ?_ ?_ _ | omega | (focus (simp; omega)) | (focus (simp; done))))) (by unfold sizeStack; simp; omega)).mono ?_
    rw [noCache]
    rintro e w5 ⟨rfl, hb5⟩
    replace LS := Loc.carryB LS (fun h => by ((repeat (first | with_reducible exact h | with_reducible refine Loc.drew ?_ | with_reducible refine Loc.drewN ?_ _ | with_reducible refine Loc.alloc ?_ _)); done)) hb5
    (try clear s0 s1 s2 s3 sf)
    obtain ⟨s0, s1, s2, s3, sf⟩ := LS.four
    have zS5 := LS.lt
    have HB5 : Hid (Below w.heap.size w w5) := Lib.hid (Below.next (W := w) (by repeat (first | with_reducible exact HB4.out | with_reducible exact Below.refl _ _ | with_reducible refine below_drewN ?_ _ | with_reducible refine Below.drew ?_ | with_reducible refine Below.alloc ?_ ?_ _ | with_reducible refine Below.setCell ?_ ?_ _ | (with_reducible refine Below.next ?_ (by assumption)) | ((with_reducible refine Below.far' (by assumption) ?_ ?_ ?_); (focus (first | omega | (simp; omega) | (simp; done))); (focus (first | omega | (simp; omega) | (simp; done)))) | omega | (focus (simp; omega)) | (focus (simp; done)))) hb5)
    have HS5 := Lib.hid (StackRd.below HS4.out (Below.next (by repeat (first | with_reducible exact Below.refl _ _ | with_reducible refine below_drewN ?_ _ | with_reducible refine Below.drew ?_ | with_reducible refine Below.alloc ?_ ?_ _ | with_reducible refine Below.setCell ?_ ?_ _ | omega | (focus (simp; omega)) | (focus (simp; done)))) hb5))
    have hz5 := hb5.size
    (try simp at hz5)
    clear hb5
    go_wp2_with (go_at_call 31; refine (alive_any _).mono ?_; rintro e w6 ⟨rfl, hb6⟩)
    go_ret
    exact ⟨rfl, Below.next (W := w) HB5.out hb6⟩
set_option maxRecDepth 100000 in
theorem lifted (os : Os) (started : os.Started) (H : Type) (enc : TypeId × Value → H) :
    ReturnsInHanded {} Try.checked os 6 .any (Rows.fnStackValidSpec.pre6 enc Try.prog Try.f6 Rows.fnStackValidRow.domain false) (Rows.fnStackValidSpec.post enc Try.prog Try.f6 false true false false) := by
  refine returnsInHanded_of_change (C := Try.checked) own_knob started (by kernel_rfl) Try.func6
    (ChangeSpec.witness6 (enc := enc) (C := Try.checked) false ⟨#[], #[.slice none 0 0], []⟩ 8 (by kernel_rfl) (by kernel_rfl) (by kernel_rfl) (by kernel_rfl)) ?_
  intro W base args ds gs before hval0 hW hcnd _
  have hval : ∀ (j : Nat) t v, Try.f6.params[j]? = some t → args[j]? = some v → Value.okWide Try.prog W .any base t v := hval0
  have hW' := hW
  obtain ⟨p, q, hA0, hV, rfl, hfz, hnd⟩ := hW
  have hA : DataW.TrodAll enc Try.prog W 0 (fun _ => true) true Try.f6.params.toList args.toList ds p := hA0
  rw [Try.params6] at hA hval
  obtain ⟨v0, vs0, d0, ds0, p0, q0, hargs, rfl, rfl, h0, r0⟩ := trodAll_cons hA
  obtain ⟨rfl, rfl, rfl⟩ := trodAll_nil r0
  obtain rfl : args = #[v0] := by cases args; simp_all
  obtain ⟨rfl, rfl⟩ := trodVars_none hV
  have k0 := h0
  have lt0 : ∀ x ∈ p0, x.block < W.heap.size := by obtain ⟨m, hm⟩ := k0; exact DataW.trod_lt m _ _ _ hm
  obtain ⟨A0, c0, l0, rfl, hl0, hm0, rd0, by0⟩ := open_bytes Try.underlying46 Try.underlying5 (by kernel_rfl) (hval 0 46 v0 rfl rfl) h0
  clear hA0 hval0
  refine (walk A0 c0 l0 W hl0 hm0 rd0 by0).mono fun e W' ⟨he, bel⟩ => ?_
  subst he
  exact ⟨_, rfl, _, _, _, [], _, [], hW', trodAll_mk1 (shut_bool Try.underlying4 _), (trodAll_cons_mk (Below.trod laid_out (by kernel_rfl) (of_decide_eq_true (by kernel_rfl)) k0 bel lt0) trodAll_mk0), rfl, bel.frame _, fun h => by cases h⟩
theorem over : Rows.fnStackValidRow.holds Try.pinned (OpenSpec.ofChange Rows.fnStackValidSpec) :=
  OpenClaim.holds_of_wide 6 Try.f6 rfl rfl rfl rfl rfl rfl rfl ⟨rfl, rfl, rfl, rfl, rfl⟩ rfl rfl rfl rfl rfl (by kernel_rfl) Try.func6 (by kernel_rfl)
    (of_decide_eq_true (by kernel_rfl)) (by unfold Func.isWrapper; first | (rw [if_pos (by decide +kernel)]; kernel_rfl) | (rw [if_neg (by decide +kernel)]; exact ⟨rfl, rfl⟩))
    (fun os started H enc _ => lifted os started H enc)
theorem proved : Rows.FnStackValidSaid := over
end LwKv
end Go.Proofs.Ytlhbjfjphckifaa
