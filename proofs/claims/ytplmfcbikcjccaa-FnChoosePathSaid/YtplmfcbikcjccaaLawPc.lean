/-
  FnChoosePath: the least loaded path is chosen. No condition.
-/
import Derived.Test.YtplmfcbikcjccaaBase
import Derived.Test.YtplmfcbikcjccaaNum
import Derived.Test.YtplmfcbikcjccaaInts
import Derived.Test.YtplmfcbikcjccaaApp
import Derived.Test.YtplmfcbikcjccaaIntsW
import Derived.Test.YtplmfcbikcjccaaLib
import Derived.Test.YtplmfcbikcjccaaPathM
import Derived.Test.YtplmfcbikcjccaaPath
import Derived.Test.YtplmfcbikcjccaaPathC
import Derived.Test.YtplmfcbikcjccaaDraw
import Derived.Test.YtplmfcbikcjccaaDrawP
import Derived.Test.YtplmfcbikcjccaaOpen
namespace Go.Proofs.Ytplmfcbikcjccaa
open Go.RowKit Go.ChangeShapes Go.WideShapes Go.ChangeAt Go.Deep Go.Joins
theorem choose_cases (l : List Pth) : chooseB l = -1 ∨ (∃ b : Nat, chooseB l = b ∧ ∃ hb : b < l.length, l[b].up = true ∧ l[b].load < 1000 ∧ (∀ i (hi : i < l.length), l[i].up = true → l[b].load ≤ l[i].load) ∧ ∀ i (hi : i < l.length), i < b → l[i].up = true → l[b].load < l[i].load) := by
  unfold chooseB
  split
  · rcases best_cases l with ⟨h, _⟩ | ⟨b, h1, h2⟩
    · exact .inl h
    · exact .inr ⟨b, h1, h2⟩
  · exact .inl rfl
namespace LwPc
set_option maxHeartbeats 8000000 in
theorem walk (A : Option Addr) (c : Nat) (l : List Int) (w : World) (hl : l.length ≤ c) (hm : c ≤ maxLen) (hr : Rd eByte w A l) (hb : ∀ x ∈ l, 0 ≤ x ∧ x ≤ 255) :
    Calls Try.prog 6 #[.slice A l.length c] w fun e w' => e = .returned (.bool true) ∧ Below w.heap.size w w' := by
  have HB := Lib.hid hb
  clear hb
  by_cases hsz : (1048576 : Int) < l.length
  · unfold maxLen at hm
    go_enter Try.func6, Try.ntmps6
    go_wp2
    go_ret
    exact ⟨rfl, (by repeat (first | with_reducible exact Below.refl _ _ | with_reducible assumption | with_reducible refine below_drewN ?_ _ | with_reducible refine Below.drew ?_ | with_reducible refine Below.alloc ?_ ?_ _ | with_reducible refine Below.setCell ?_ ?_ _ | (with_reducible refine Below.next ?_ (by assumption)) | omega | (focus (simp; omega)) | (focus (simp; done))))⟩
  · go_enter Try.func6, Try.ntmps6
    go_wp2_with fail
    refine (drawPc_any A c l _ hl hm hr HB.out).mono ?_
    rintro e w1 ⟨A1, c1, g1, d, rfl, hg1, row1, hd, hb1⟩
    have hz1 := hb1.size
    have hd7 : (d.length : Int) ≤ 7 := by omega
    have hcs := choose_cases d
    obtain ⟨n, hn⟩ : ∃ n, n = chooseB d := ⟨_, rfl⟩
    have HN := Lib.hid hn
    rw [← hn] at hcs
    clear hn
    have HROW1 := Lib.hid row1
    go_wp2_with fail
    refine (implChoose_any A1 c1 d _ row1.rd (by omega)).mono ?_
    rw [← HN.out]
    rintro e w2 ⟨rfl, hb2⟩
    have HROW2 := Lib.hid (row1.below hb2)
    go_wp2_with fail
    refine (specChoose_any A1 c1 d _ HROW2.out.rd (by omega)).mono ?_
    rw [← HN.out]
    rintro e w3 ⟨rfl, hb3⟩
    have HRD : Hid (Rd ePath w3 A1 d) := Lib.hid ((HROW2.out.below hb3).rd)
    have HBW : Hid (Below w.heap.size w w3) := Lib.hid (Below.next (Below.next (W := w) hb1 hb2) hb3)
    clear hb1 hb2 hb3 row1 HROW1 HROW2 hr HB
    rcases hcs with rfl | ⟨b, rfl, hbl, hup, hlo, hmin, hfst⟩
    · go_wp2_with (go_at_call 20; refine (alive_any _).mono ?_; rintro e w6 ⟨rfl, hb6⟩)
      go_ret
      exact ⟨rfl, (by repeat (first | with_reducible exact HBW.out | with_reducible exact Below.refl _ _ | with_reducible refine below_drewN ?_ _ | with_reducible refine Below.drew ?_ | with_reducible refine Below.alloc ?_ ?_ _ | with_reducible refine Below.setCell ?_ ?_ _ | (with_reducible refine Below.next ?_ (by assumption)) | ((with_reducible refine Below.far' (by assumption) ?_ ?_ ?_); (focus (first | omega | (simp; omega) | (simp; done))); (focus (first | omega | (simp; omega) | (simp; done)))) | omega | (focus (simp; omega)) | (focus (simp; done))))⟩
    · obtain ⟨p, off, rfl, hpl, hcu, hcl⟩ := HRD.out.path hbl
      obtain ⟨y, hy⟩ : ∃ y, y = d[b].load := ⟨_, rfl⟩
      have HMIN := Lib.hid hmin
      have HFST := Lib.hid hfst
      have HY := Lib.hid hy
      rw [hup] at hcu
      rw [← hy] at hcl hlo
      clear hmin hfst hy hup
      have hb0 : (0 : Int) ≤ (b : Int) := by omega
      go_wp2
      go_loopw [5] (fun i wr => ∃ k : Nat, k ≤ d.length ∧ i = .int .i64 k ∧ ∃ q, wr = w3.drewN q) (fun i _ => d.length - (intOf i).toNat)
      case atStart => exact ⟨0, Nat.zero_le _, rfl, 0, rfl⟩
      case round =>
        obtain ⟨k, hk, rfl, q, rfl⟩ := hrel
        by_cases hlt : k < d.length
        · obtain ⟨p2, off2, he2, hpl2, hku, hkl⟩ := HRD.out.path hlt
          cases he2
          obtain ⟨u, hu⟩ : ∃ u, u = d[k].up := ⟨_, rfl⟩
          obtain ⟨x, hx⟩ : ∃ x, x = d[k].load := ⟨_, rfl⟩
          have HU := Lib.hid hu
          have HX := Lib.hid hx
          rw [← hu] at hku
          rw [← hx] at hkl
          clear hu hx
          cases u
          · go_wp2
            go_quiet (fail)
            go_wp2
            go_roundw
            case rel => exact ⟨k + 1, by omega, by go_num, _, rfl⟩
            case measure => simp [intOf]; omega
          · have h1 : y ≤ x := by have := HMIN.out k hlt HU.out.symm; rw [HX.out, HY.out]; exact this
            have h1' : decide (x < y) = false := by simp; omega
            by_cases h2 : x = y
            · have h2' : (x == y) = true := by simpa using h2
              have h3 : b ≤ k := by
                by_cases h : b ≤ k
                · exact h
                · have := HFST.out k hlt (by omega) HU.out.symm
                  rw [← HX.out, ← HY.out] at this; omega
              have h3' : decide ((k : Int) < (b : Int)) = false := by simp; omega
              have h3'' : decide (k < b) = false := by simp; omega
              clear h2
              go_wp2
              go_quiet (fail)
              go_wp2
              go_roundw
              case rel => exact ⟨k + 1, by omega, by go_num, _, rfl⟩
              case measure => simp [intOf]; omega
            · have h2' : (x == y) = false := by simpa using h2
              clear h2
              go_wp2
              go_quiet (fail)
              go_wp2
              go_roundw
              case rel => exact ⟨k + 1, by omega, by go_num, _, rfl⟩
              case measure => simp [intOf]; omega
        · have hlo' : decide (y < 1000) = true := by simpa using hlo
          go_wp2
          go_ret
          exact ⟨rfl, (by repeat (first | with_reducible exact HBW.out | with_reducible exact Below.refl _ _ | with_reducible refine below_drewN ?_ _ | with_reducible refine Below.drew ?_ | with_reducible refine Below.alloc ?_ ?_ _ | with_reducible refine Below.setCell ?_ ?_ _ | (with_reducible refine Below.next ?_ (by assumption)) | ((with_reducible refine Below.far' (by assumption) ?_ ?_ ?_); (focus (first | omega | (simp; omega) | (simp; done))); (focus (first | omega | (simp; omega) | (simp; done)))) | omega | (focus (simp; omega)) | (focus (simp; done))))⟩
set_option maxRecDepth 100000 in
theorem lifted (os : Os) (started : os.Started) (H : Type) (enc : TypeId × Value → H) :
    ReturnsInHanded {} Try.checked os 6 .any (Rows.fnChoosePathSpec.pre6 enc Try.prog Try.f6 Rows.fnChoosePathRow.domain false) (Rows.fnChoosePathSpec.post enc Try.prog Try.f6 false true false false) := by
  refine returnsInHanded_of_change (C := Try.checked) own_knob started (by kernel_rfl) Try.func6
    (ChangeSpec.witness6 (enc := enc) (C := Try.checked) false ⟨#[], #[.slice none 0 0], []⟩ 8 (by kernel_rfl) (by kernel_rfl) (by kernel_rfl) (by kernel_rfl)) ?_
  intro W base args ds gs before hval0 hW hcnd _
  have hval : ∀ (j : Nat) t v, Try.f6.params[j]? = some t → args[j]? = some v → Value.okWide Try.prog W .any base t v := hval0
  have hW' := hW
  obtain ⟨p, q, hA0, hV, rfl, hfz, hnd⟩ := hW
  have hA : DataW.TrodAll enc Try.prog W 0 (fun _ => true) true Try.f6.params.toList args.toList ds p := hA0
  rw [Try.params6] at hA hval
  obtain ⟨v0, vs0, d0, ds0, p0, q0, hargs, rfl, rfl, h0, r0⟩ := trodAll_cons hA
  obtain ⟨rfl, rfl, rfl⟩ := trodAll_nil r0
  obtain rfl : args = #[v0] := by cases args; simp_all
  obtain ⟨rfl, rfl⟩ := trodVars_none hV
  have k0 := h0
  have lt0 : ∀ x ∈ p0, x.block < W.heap.size := by obtain ⟨m, hm⟩ := k0; exact DataW.trod_lt m _ _ _ hm
  obtain ⟨A0, c0, l0, rfl, hl0, hm0, rd0, by0⟩ := open_bytes Try.underlying30 Try.underlying5 (by kernel_rfl) (hval 0 30 v0 rfl rfl) h0
  clear hA0 hval0
  refine (walk A0 c0 l0 W hl0 hm0 rd0 by0).mono fun e W' ⟨he, bel⟩ => ?_
  subst he
  exact ⟨_, rfl, _, _, _, [], _, [], hW', trodAll_mk1 (shut_bool Try.underlying4 _), (trodAll_cons_mk (Below.trod laid_out (by kernel_rfl) (of_decide_eq_true (by kernel_rfl)) k0 bel lt0) trodAll_mk0), rfl, bel.frame _, fun h => by cases h⟩
theorem over : Rows.fnChoosePathRow.holds Try.pinned (OpenSpec.ofChange Rows.fnChoosePathSpec) :=
  OpenClaim.holds_of_wide 6 Try.f6 rfl rfl rfl rfl rfl rfl rfl ⟨rfl, rfl, rfl, rfl, rfl⟩ rfl rfl rfl rfl rfl (by kernel_rfl) Try.func6 (by kernel_rfl)
    (of_decide_eq_true (by kernel_rfl)) (by unfold Func.isWrapper; first | (rw [if_pos (by decide +kernel)]; kernel_rfl) | (rw [if_neg (by decide +kernel)]; exact ⟨rfl, rfl⟩))
    (fun os started H enc _ => lifted os started H enc)
theorem proved : Rows.FnChoosePathSaid := over
end LwPc
end Go.Proofs.Ytplmfcbikcjccaa
