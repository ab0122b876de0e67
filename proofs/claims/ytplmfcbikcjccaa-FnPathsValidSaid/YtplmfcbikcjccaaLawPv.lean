/-
  FnPathsValid: failed paths have no load. No condition.
-/
import Derived.Test.YtplmfcbikcjccaaBase
import Derived.Test.YtplmfcbikcjccaaNum
import Derived.Test.YtplmfcbikcjccaaInts
import Derived.Test.YtplmfcbikcjccaaApp
import Derived.Test.YtplmfcbikcjccaaIntsW
import Derived.Test.YtplmfcbikcjccaaLib
import Derived.Test.YtplmfcbikcjccaaPathM
import Derived.Test.YtplmfcbikcjccaaPathP
import Derived.Test.YtplmfcbikcjccaaPath
import Derived.Test.YtplmfcbikcjccaaPathC
import Derived.Test.YtplmfcbikcjccaaDraw
import Derived.Test.YtplmfcbikcjccaaDrawP
import Derived.Test.YtplmfcbikcjccaaOpen
namespace Go.Proofs.Ytplmfcbikcjccaa
open Go.RowKit Go.ChangeShapes Go.WideShapes Go.ChangeAt Go.Deep Go.Joins
theorem pathsB_take {l : List Pth} (h : pathsB l = true) (k : Nat) : pathsB (l.take k) = true := by
  rw [pathsB_true] at h ⊢
  refine ⟨by rw [List.length_take]; omega, fun p hp => h.2 p (List.mem_of_mem_take hp)⟩
theorem pathsB_bad (l : List Pth) : pathsB (l ++ [⟨false, 1⟩]) = false := by
  have h : pathOk ⟨false, 1⟩ = false := by decide
  simp [pathsB, h]
namespace LwPv
set_option maxHeartbeats 4000000 in
theorem walk (A : Option Addr) (c : Nat) (l : List Int) (w : World) (hl : l.length ≤ c) (hm : c ≤ maxLen) (hr : Rd eByte w A l) (hb : ∀ x ∈ l, 0 ≤ x ∧ x ≤ 255) :
    Calls Try.prog 5 #[.slice A l.length c] w fun e w' => e = .returned (.bool true) ∧ Below w.heap.size w w' := by
  have HB := Lib.hid hb
  clear hb
  by_cases hsz : (1048576 : Int) < l.length
  · unfold maxLen at hm
    go_enter Try.func5, Try.ntmps5
    go_wp2
    go_ret
    exact ⟨rfl, (by repeat (first | with_reducible exact Below.refl _ _ | with_reducible assumption | with_reducible refine below_drewN ?_ _ | with_reducible refine Below.drew ?_ | with_reducible refine Below.alloc ?_ ?_ _ | with_reducible refine Below.setCell ?_ ?_ _ | (with_reducible refine Below.next ?_ (by assumption)) | omega | (focus (simp; omega)) | (focus (simp; done))))⟩
  · go_enter Try.func5, Try.ntmps5
    go_wp2_with fail
    refine (drawPv_any A c l _ hl hm hr HB.out).mono ?_
    rintro e w1 ⟨A1, c1, g1, d, rfl, hg1, row1, hd, hb1⟩
    have hz1 := hb1.size
    have hd7 : (d.length : Int) ≤ 7 := by omega
    have hdc := row1.le
    cases hv : pathsB d
    · have HV := Lib.hid hv
      clear hv
      go_wp2_with fail
      refine (implPaths_any A1 c1 d _ row1.rd (by omega)).mono ?_
      rw [HV.out]
      rintro e w2 ⟨rfl, hb2⟩
      have row2 := row1.below hb2
      go_wp2_with fail
      refine (specPaths_any A1 c1 d _ row2.rd (by omega)).mono ?_
      rw [HV.out]
      rintro e w' ⟨rfl, rfl⟩
      have hz2 := hb2.size
      have HA := Lib.hid ((Row.rd row2).alloc (.cells #[] 33))
      have hbad := Lib.hid (pathsB_bad d)
      go_wp2_with (first
        | (at_builtin; refine wpList_append_rowg (E := ePath) (A := some ⟨w2.heap.size, 0, none⟩) (c := 0) (g := w2.heap.size) (l := []) (by first | rfl | kernel_rfl) (.tmp 27) (.tmp 28) (by rfl) el_path (by rfl) (Row.made0 rfl) A1 c1 d (by rfl) HA.out (by simp only [maxLen, List.length_nil]; omega) (by simp only [List.length_nil]; omega) ?_; intro A3 c3 g3 w3 l3 hl3 hle1 hle2 hrow3 hg3 hgg3; simp only [List.length_nil] at hle1 hle2)
        | (at_builtin; refine wpList_append_rowg (E := ePath) (A := A3) (c := c3) (g := g3) (l := l3) (by first | rfl | kernel_rfl) (.tmp 29) (.tmp 31) (by rfl) el_path (by rfl) (Row.alloc hrow3 _) (some ⟨w3.heap.size, 0, none⟩) 1 [(⟨false, 1⟩ : Pth)] (by rfl) (by repeat (first | ((with_reducible refine Rd.lit ?_ ?_); (focus (first | with_reducible rfl | omega | (simp; omega) | (simp; done))); (focus (first | rfl | (simp; rfl) | (simp; done)))) | with_reducible refine Rd.drew ?_ | with_reducible refine Rd.drewN ?_ _ | with_reducible refine Rd.alloc ?_ _ | (with_reducible refine Rd.below ?_ (by assumption)))) (by simp only [maxLen, List.length_cons, List.length_nil]; omega) (by simp only [List.length_cons, List.length_nil]; omega) ?_; intro A4 c4 g4 w4 l4 hl4 hle3 hle4 hrow4 hg4 hgg4; simp only [List.length_cons, List.length_nil] at hle3 hle4)
        | (go_at_call 15; refine (implPaths_any A4 c4 l4 _ hrow4.rd (by omega)).mono ?_; rw [show pathsB l4 = false by rw [hl4.out, hl3.out]; exact hbad.out]; rintro e w5 ⟨rfl, hb5⟩)
        | (go_at_call 20; refine (alive_any _).mono ?_; rintro e w6 ⟨rfl, hb6⟩))
      go_ret
      have hz3 := hg3.size
      have hz4 := hg4.size
      simp at hgg3 hgg4 hz3 hz4
      exact ⟨rfl, (by repeat (first | with_reducible exact hb1 | with_reducible exact Below.refl _ _ | with_reducible refine below_drewN ?_ _ | with_reducible refine Below.drew ?_ | with_reducible refine Below.alloc ?_ ?_ _ | with_reducible refine Below.setCell ?_ ?_ _ | (with_reducible refine Below.next ?_ (by assumption)) | ((with_reducible refine Below.far' (by assumption) ?_ ?_ ?_); (focus (first | omega | (simp; omega) | (simp; done))); (focus (first | omega | (simp; omega) | (simp; done)))) | omega | (focus (simp; omega)) | (focus (simp; done))))⟩
    · have HV := Lib.hid hv
      have HT := Lib.hid (pathsB_take hv (d.length / 2))
      clear hv
      go_wp2_with fail
      refine (implPaths_any A1 c1 d _ row1.rd (by omega)).mono ?_
      rw [HV.out]
      rintro e w2 ⟨rfl, hb2⟩
      have row2 := row1.below hb2
      go_wp2_with fail
      refine (specPaths_any A1 c1 d _ row2.rd (by omega)).mono ?_
      rw [HV.out]
      rintro e w' ⟨rfl, rfl⟩
      have hz2 := hb2.size
      have hbad := Lib.hid (pathsB_bad d)
      have htl : (d.take (d.length / 2)).length = d.length / 2 := by simp; omega
      have HTL := Lib.hid htl
      clear htl
      have hh0 : (0 : Int) ≤ (d.length : Int) / 2 := by omega
      have hh1 : (d.length : Int) / 2 ≤ (c1 : Int) := by omega
      go_wp2_with fail
      refine (calls_len (rest := []) HTL.out (implPaths_any A1 c1 (d.take (d.length / 2)) _ (row2.rd.take _) (by rw [HTL.out]; omega))).mono ?_
      rw [HT.out]
      rintro e w7 ⟨rfl, hb7⟩
      have hz7 := hb7.size
      have row7 := row2.below hb7
      have BB : Hid (Below w.heap.size w w7) := Lib.hid ((by repeat (first | with_reducible exact hb1 | with_reducible exact Below.refl _ _ | with_reducible refine below_drewN ?_ _ | with_reducible refine Below.drew ?_ | with_reducible refine Below.alloc ?_ ?_ _ | with_reducible refine Below.setCell ?_ ?_ _ | (with_reducible refine Below.next ?_ (by assumption)) | ((with_reducible refine Below.far' (by assumption) ?_ ?_ ?_); (focus (first | omega | (simp; omega) | (simp; done))); (focus (first | omega | (simp; omega) | (simp; done)))) | omega | (focus (simp; omega)) | (focus (simp; done)))))
      clear hb1 hb2 hb7 row2 row1
      have HA := Lib.hid ((Row.rd row7).alloc (.cells #[] 33))
      go_wp2_with (first
        | (at_builtin; refine wpList_append_rowg (E := ePath) (A := some ⟨w7.heap.size, 0, none⟩) (c := 0) (g := w7.heap.size) (l := []) (by first | rfl | kernel_rfl) (.tmp 27) (.tmp 28) (by rfl) el_path (by rfl) (Row.made0 rfl) A1 c1 d (by rfl) HA.out (by simp only [maxLen, List.length_nil]; omega) (by simp only [List.length_nil]; omega) ?_; intro A3 c3 g3 w3 l3 hl3 hle1 hle2 hrow3 hg3 hgg3; simp only [List.length_nil] at hle1 hle2)
        | (at_builtin; refine wpList_append_rowg (E := ePath) (A := A3) (c := c3) (g := g3) (l := l3) (by first | rfl | kernel_rfl) (.tmp 29) (.tmp 31) (by rfl) el_path (by rfl) (Row.alloc hrow3 _) (some ⟨w3.heap.size, 0, none⟩) 1 [(⟨false, 1⟩ : Pth)] (by rfl) (by repeat (first | ((with_reducible refine Rd.lit ?_ ?_); (focus (first | with_reducible rfl | omega | (simp; omega) | (simp; done))); (focus (first | rfl | (simp; rfl) | (simp; done)))) | with_reducible refine Rd.drew ?_ | with_reducible refine Rd.drewN ?_ _ | with_reducible refine Rd.alloc ?_ _ | (with_reducible refine Rd.below ?_ (by assumption)))) (by simp only [maxLen, List.length_cons, List.length_nil]; omega) (by simp only [List.length_cons, List.length_nil]; omega) ?_; intro A4 c4 g4 w4 l4 hl4 hle3 hle4 hrow4 hg4 hgg4; simp only [List.length_cons, List.length_nil] at hle3 hle4)
        | (go_at_call 15; refine (implPaths_any A4 c4 l4 _ hrow4.rd (by omega)).mono ?_; rw [show pathsB l4 = false by rw [hl4.out, hl3.out]; exact hbad.out]; rintro e w5 ⟨rfl, hb5⟩)
        | (go_at_call 20; refine (alive_any _).mono ?_; rintro e w6 ⟨rfl, hb6⟩))
      go_ret
      have hz3 := hg3.size
      have hz4 := hg4.size
      simp at hgg3 hgg4 hz3 hz4
      exact ⟨rfl, (by repeat (first | with_reducible exact BB.out | with_reducible exact Below.refl _ _ | with_reducible refine below_drewN ?_ _ | with_reducible refine Below.drew ?_ | with_reducible refine Below.alloc ?_ ?_ _ | with_reducible refine Below.setCell ?_ ?_ _ | (with_reducible refine Below.next ?_ (by assumption)) | ((with_reducible refine Below.far' (by assumption) ?_ ?_ ?_); (focus (first | omega | (simp; omega) | (simp; done))); (focus (first | omega | (simp; omega) | (simp; done)))) | omega | (focus (simp; omega)) | (focus (simp; done))))⟩
set_option maxRecDepth 100000 in
theorem lifted (os : Os) (started : os.Started) (H : Type) (enc : TypeId × Value → H) :
    ReturnsInHanded {} Try.checked os 5 .any (Rows.fnPathsValidSpec.pre6 enc Try.prog Try.f5 Rows.fnPathsValidRow.domain false) (Rows.fnPathsValidSpec.post enc Try.prog Try.f5 false true false false) := by
  refine returnsInHanded_of_change (C := Try.checked) own_knob started (by kernel_rfl) Try.func5
    (ChangeSpec.witness6 (enc := enc) (C := Try.checked) false ⟨#[], #[.slice none 0 0], []⟩ 8 (by kernel_rfl) (by kernel_rfl) (by kernel_rfl) (by kernel_rfl)) ?_
  intro W base args ds gs before hval0 hW hcnd _
  have hval : ∀ (j : Nat) t v, Try.f5.params[j]? = some t → args[j]? = some v → Value.okWide Try.prog W .any base t v := hval0
  have hW' := hW
  obtain ⟨p, q, hA0, hV, rfl, hfz, hnd⟩ := hW
  have hA : DataW.TrodAll enc Try.prog W 0 (fun _ => true) true Try.f5.params.toList args.toList ds p := hA0
  rw [Try.params5] at hA hval
  obtain ⟨v0, vs0, d0, ds0, p0, q0, hargs, rfl, rfl, h0, r0⟩ := trodAll_cons hA
  obtain ⟨rfl, rfl, rfl⟩ := trodAll_nil r0
  obtain rfl : args = #[v0] := by cases args; simp_all
  obtain ⟨rfl, rfl⟩ := trodVars_none hV
  have k0 := h0
  have lt0 : ∀ x ∈ p0, x.block < W.heap.size := by obtain ⟨m, hm⟩ := k0; exact DataW.trod_lt m _ _ _ hm
  obtain ⟨A0, c0, l0, rfl, hl0, hm0, rd0, by0⟩ := open_bytes Try.underlying30 Try.underlying5 (by kernel_rfl) (hval 0 30 v0 rfl rfl) h0
  clear hA0 hval0
  refine (walk A0 c0 l0 W hl0 hm0 rd0 by0).mono fun e W' ⟨he, bel⟩ => ?_
  subst he
  exact ⟨_, rfl, _, _, _, [], _, [], hW', trodAll_mk1 (shut_bool Try.underlying4 _), (trodAll_cons_mk (Below.trod laid_out (by kernel_rfl) (of_decide_eq_true (by kernel_rfl)) k0 bel lt0) trodAll_mk0), rfl, bel.frame _, fun h => by cases h⟩
theorem over : Rows.fnPathsValidRow.holds Try.pinned (OpenSpec.ofChange Rows.fnPathsValidSpec) :=
  OpenClaim.holds_of_wide 5 Try.f5 rfl rfl rfl rfl rfl rfl rfl ⟨rfl, rfl, rfl, rfl, rfl⟩ rfl rfl rfl rfl rfl (by kernel_rfl) Try.func5 (by kernel_rfl)
    (of_decide_eq_true (by kernel_rfl)) (by unfold Func.isWrapper; first | (rw [if_pos (by decide +kernel)]; kernel_rfl) | (rw [if_neg (by decide +kernel)]; exact ⟨rfl, rfl⟩))
    (fun os started H enc _ => lifted os started H enc)
theorem proved : Rows.FnPathsValidSaid := over
end LwPv
end Go.Proofs.Ytplmfcbikcjccaa
