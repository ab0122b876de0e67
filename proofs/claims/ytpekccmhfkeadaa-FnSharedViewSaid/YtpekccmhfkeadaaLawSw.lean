/-
  FnSharedView: two sectors have equal values exactly if they have the same number. No condition.
-/
import Derived.Test.YtpekccmhfkeadaaBase
import Derived.Test.YtpekccmhfkeadaaNum
import Derived.Test.YtpekccmhfkeadaaInts
import Derived.Test.YtpekccmhfkeadaaApp
import Derived.Test.YtpekccmhfkeadaaIntsW
import Derived.Test.YtpekccmhfkeadaaLib
import Derived.Test.YtpekccmhfkeadaaSpares
import Derived.Test.YtpekccmhfkeadaaOwn
import Derived.Test.YtpekccmhfkeadaaCopy
import Derived.Test.YtpekccmhfkeadaaShared
import Derived.Test.YtpekccmhfkeadaaSharedM
import Derived.Test.YtpekccmhfkeadaaSharedC
import Derived.Test.YtpekccmhfkeadaaSharedV
import Derived.Test.YtpekccmhfkeadaaSharedU
import Derived.Test.YtpekccmhfkeadaaSharedD
import Derived.Test.YtpekccmhfkeadaaSharedWM
import Derived.Test.YtpekccmhfkeadaaSameSh
import Derived.Test.YtpekccmhfkeadaaDraw
import Derived.Test.YtpekccmhfkeadaaDrawK
import Derived.Test.YtpekccmhfkeadaaDrawD
import Derived.Test.YtpekccmhfkeadaaDrawShd
import Derived.Test.YtpekccmhfkeadaaDrawShv
import Derived.Test.YtpekccmhfkeadaaOpen
import Derived.Laws.StructEq
import Derived.IntWalk
import Derived.StillTailTactics
namespace Go.Proofs.Ytpekccmhfkeadaa
open Go.RowKit Go.ChangeShapes Go.WideShapes Go.ChangeAt Go.Deep Go.Joins
namespace LwSw
theorem view_sz (s : Sh) : (viewS s).length ≤ sizeShared s := by
  unfold viewS sizeShared
  split
  · rw [shView_length]; omega
  · simp
set_option maxHeartbeats 8000000 in
theorem walk (A : Option Addr) (c : Nat) (l : List Int) (w : World) (hl : l.length ≤ c) (hm : c ≤ maxLen) (hr : Rd eByte w A l) (hb : ∀ x ∈ l, 0 ≤ x ∧ x ≤ 255) :
    Calls Try.prog 8 #[.slice A l.length c] w fun e w' => e = .returned (.bool true) ∧ Below w.heap.size w w' := by
  have HB := Lib.hid hb
  clear hb
  by_cases hsz : (1048576 : Int) < l.length
  · unfold maxLen at hm
    go_enter Try.func8, Try.ntmps8
    go_wp2
    go_ret
    exact ⟨rfl, (by repeat (first | with_reducible exact Below.refl _ _ | with_reducible assumption | with_reducible refine below_drewN ?_ _ | with_reducible refine Below.drew ?_ | with_reducible refine Below.alloc ?_ ?_ _ | with_reducible refine Below.setCell ?_ ?_ _ | (with_reducible refine Below.next ?_ (by assumption)) | omega | (focus (simp; omega)) | (focus (simp; done))))⟩
  · go_enter Try.func8, Try.ntmps8
    go_wp2_with fail
    refine (drawShVw_any A c l _ hl hm hr HB.out).mono ?_
    rintro e w1 ⟨y0, y1, s, rfl, hown, hs4, hb1⟩
    obtain ⟨Ay, cy, Ay', cy', rfl, rfl⟩ := sharedRd_lens (SharedOwn.rd hown)
    have hz1 := hb1.size
    have HB1 := Lib.hid hb1
    have HO1 := Lib.hid (SharedOwn.rd hown)
    clear hb1 hown
    have hszs : Hid (sizeShared s ≤ 1099511627776) := Lib.hid (by omega)
    have hvz := view_sz s
    obtain ⟨v, hv⟩ : ∃ v, v = viewS s := ⟨_, rfl⟩
    have HV := Lib.hid hv
    rw [← hv] at hvz
    have hvl : v.length ≤ 400 := by omega
    have hwl : s.whr.length ≤ 400 := by unfold sizeShared at hs4; omega
    have LX := Loc.newAt w1 [.slice Ay s.whr.length cy, .slice Ay' s.cps.length cy'] 30 (b := w1.heap.size) rfl
    clear hv hvz
    go_wp2_with fail
    refine (implSView_c _ _ s _ (SharedRd.below HO1.out (by repeat (first | with_reducible exact Below.refl _ _ | with_reducible refine below_drewN ?_ _ | with_reducible refine Below.drew ?_ | with_reducible refine Below.alloc ?_ ?_ _ | with_reducible refine Below.setCell ?_ ?_ _ | omega | (focus (simp; omega)) | (focus (simp; done))))) hszs.out).mono ?_
    rw [← HV.out]
    rintro e w2 ⟨u2, rfl, O2, hb2⟩
    obtain ⟨A2, c2, g2, rfl, -, -⟩ := id O2
    replace LX := Loc.carryB LX (fun h => by ((repeat (first | with_reducible exact h | with_reducible refine Loc.drew ?_ | with_reducible refine Loc.drewN ?_ _ | with_reducible refine Loc.alloc ?_ _)); done)) hb2
    obtain ⟨x0, x1, xf⟩ := LX.two
    have zX := LX.lt
    have H2 := Lib.hid O2
    have HB2 : Hid (Below w.heap.size w w2) := Lib.hid (Below.next (W := w) (by repeat (first | with_reducible exact HB1.out | with_reducible exact Below.refl _ _ | with_reducible refine below_drewN ?_ _ | with_reducible refine Below.drew ?_ | with_reducible refine Below.alloc ?_ ?_ _ | with_reducible refine Below.setCell ?_ ?_ _ | (with_reducible refine Below.next ?_ (by assumption)) | ((with_reducible refine Below.far' (by assumption) ?_ ?_ ?_); (focus (first | omega | (simp; omega) | (simp; done))); (focus (first | omega | (simp; omega) | (simp; done)))) | omega | (focus (simp; omega)) | (focus (simp; done)))) hb2)
    have HO2 := Lib.hid (SharedRd.below HO1.out (Below.next (by repeat (first | with_reducible exact Below.refl _ _ | with_reducible refine below_drewN ?_ _ | with_reducible refine Below.drew ?_ | with_reducible refine Below.alloc ?_ ?_ _ | with_reducible refine Below.setCell ?_ ?_ _ | omega | (focus (simp; omega)) | (focus (simp; done)))) hb2))
    have hz2 := hb2.size
    (try simp at hz2)
    clear hb2 O2
    go_wp2_with fail
    refine (specSView_c _ _ s _ HO2.out hszs.out).mono ?_
    rw [← HV.out]
    rintro e w3 ⟨u3, rfl, O3, hb3⟩
    obtain ⟨A3, c3, g3, rfl, -, -⟩ := id O3
    replace LX := Loc.carryB LX (fun h => by ((repeat (first | with_reducible exact h | with_reducible refine Loc.drew ?_ | with_reducible refine Loc.drewN ?_ _ | with_reducible refine Loc.alloc ?_ _)); done)) hb3
    clear x0 x1 xf
    obtain ⟨x0, x1, xf⟩ := LX.two
    have zX3 := LX.lt
    have H3 := Lib.hid O3
    have H23 := Lib.hid (SOwn.below H2.out hb3)
    have HB3 : Hid (Below w.heap.size w w3) := Lib.hid (Below.next (W := w) (by repeat (first | with_reducible exact HB2.out | with_reducible exact Below.refl _ _ | with_reducible refine below_drewN ?_ _ | with_reducible refine Below.drew ?_ | with_reducible refine Below.alloc ?_ ?_ _ | with_reducible refine Below.setCell ?_ ?_ _ | (with_reducible refine Below.next ?_ (by assumption)) | ((with_reducible refine Below.far' (by assumption) ?_ ?_ ?_); (focus (first | omega | (simp; omega) | (simp; done))); (focus (first | omega | (simp; omega) | (simp; done)))) | omega | (focus (simp; omega)) | (focus (simp; done)))) hb3)
    have HO3 := Lib.hid (SharedRd.below HO2.out hb3)
    have hz3 := hb3.size
    clear hb3 O3
    go_wp2_with fail
    refine (sameInts_v (.slice A2 v.length c2) (.slice A3 v.length c3) v v _ (SOwn.rd H23.out) (SOwn.rd H3.out) (by omega) (by omega)).mono ?_
    rw [dec_reflS]
    rintro e w4 ⟨rfl, q4, rfl⟩
    have RV : Hid (Rd eInt w3 A2 v) := Lib.hid (by
      obtain ⟨A', c', he, hrd, _⟩ := SOwn.rd H23.out
      injection he with h1 h2 h3
      subst h1; exact hrd)
    have RW : Hid (Rd eInt w3 Ay s.whr) := Lib.hid (SharedRd.whr HO3.out)
    go_wp2
    go_loopw [5] (fun i wr => ∃ k : Nat, k ≤ v.length ∧ i = .int .i64 k ∧ ∃ q, wr = w3.drewN q) (fun i _ => v.length - (intOf i).toNat)
    case atStart => exact ⟨0, Nat.zero_le _, rfl, q4, rfl⟩
    case round =>
      obtain ⟨k, hk, rfl, q, rfl⟩ := hrel
      by_cases hlt : k < v.length
      · have hval : sharedB s = true := by
          cases hh : sharedB s
          · have := HV.out
            rw [viewS_no hh] at this
            rw [this] at hlt
            exact absurd hlt (by simp)
          · rfl
        have hve : v = shView s := by rw [HV.out, viewS_yes hval]
        have hvw : v.length = s.whr.length := by rw [hve, shView_length]
        have HVE := Lib.hid hve
        have HVAL := Lib.hid hval
        have hkw : k < s.whr.length := by omega
        have hle1 : v.length ≤ s.whr.length := by omega
        obtain ⟨b, off, rfl, hbl, hcc⟩ := RV.out.ints (by omega)
        obtain ⟨b2, off2, rfl, hbl2, hdd⟩ := RW.out.ints (by omega)
        have hck := hcc k hlt
        have hdk := hdd k hkw
        have HCC := Lib.hid hcc
        have HDD := Lib.hid hdd
        clear hve hval hvw hcc hdd
        go_wp2
        go_loopw [6] (fun i wr => ∃ j : Nat, j ≤ k ∧ i = .int .i64 j ∧ ∃ q, wr = w3.drewN q) (fun i _ => k - (intOf i).toNat)
        case atStart => exact ⟨0, Nat.zero_le _, rfl, _, rfl⟩
        case round =>
          obtain ⟨j, hj, rfl, q2, rfl⟩ := hrel
          by_cases hjk : j < k
          · have hjl : j < v.length := by omega
            have hjw : j < s.whr.length := by omega
            have hcj := HCC.out j hjl
            have hdj := HDD.out j hjw
            have hiff := view_eq_iff HVAL.out hjw hkw
            have hiff2 : v[j]'hjl = v[k]'hlt ↔ s.whr[j] = s.whr[k] := by
              have e1 : v[j]'hjl = (shView s)[j]'(by rw [shView_length]; exact hjw) := by simp only [HVE.out]
              have e2 : v[k]'hlt = (shView s)[k]'(by rw [shView_length]; exact hkw) := by simp only [HVE.out]
              rw [e1, e2]; exact hiff
            obtain ⟨bb, hbb⟩ : ∃ bb : Bool, bb = decide (s.whr[j] = s.whr[k]) := ⟨_, rfl⟩
            have hA : (v[j]'hjl == v[k]'hlt) = bb := by rw [hbb]; by_cases h : s.whr[j] = s.whr[k] <;> simp [h, hiff2]
            have hB : (s.whr[j] == s.whr[k]) = bb := by rw [hbb]; by_cases h : s.whr[j] = s.whr[k] <;> simp [h]
            obtain ⟨vj, hvj⟩ : ∃ x, x = v[j]'hjl := ⟨_, rfl⟩
            obtain ⟨vk, hvk⟩ : ∃ x, x = v[k]'hlt := ⟨_, rfl⟩
            obtain ⟨wj, hwj⟩ : ∃ x, x = s.whr[j] := ⟨_, rfl⟩
            obtain ⟨wk, hwk⟩ : ∃ x, x = s.whr[k] := ⟨_, rfl⟩
            rw [← hvj, ← hvk] at hA
            rw [← hwj, ← hwk] at hB
            rw [← hvj] at hcj
            rw [← hvk] at hck
            rw [← hwj] at hdj
            rw [← hwk] at hdk
            clear hiff hiff2 hbb hvj hvk hwj hwk
            go_wp2
            go_quiet (fail)
            cases bb
            · go_wp2
              go_roundw
              case rel => exact ⟨j + 1, by omega, by go_num, _, rfl⟩
              case measure => simp [intOf]; omega
            · go_wp2
              go_roundw
              case rel => exact ⟨j + 1, by omega, by go_num, _, rfl⟩
              case measure => simp [intOf]; omega
          · go_wp2
            go_roundw
            case rel => exact ⟨k + 1, by omega, by go_num, _, rfl⟩
            case measure => simp [intOf]; omega
      · have hke : k = v.length := by omega
        have HO3q : Hid (SharedRd (w3.drewN q) [.slice Ay s.whr.length cy, .slice Ay' s.cps.length cy'] s) := HO3
        have HB3q : Hid (Below w.heap.size w (w3.drewN q)) := Lib.hid (below_drewN HB3.out q)
        cases hval : sharedB s
        · have HVAL := Lib.hid hval
          clear hval hke
          by_cases heq : v.length = s.whr.length
          · have heq' : ((v.length : Int) == (s.whr.length : Int)) = true := by simp [heq]
            clear heq
            go_wp2_with (go_at_call 21; refine (alive_any _).mono ?_; rintro e w6 ⟨rfl, hb6⟩)
            go_ret
            exact ⟨rfl, Below.next (W := w) HB3q.out hb6⟩
          · have heq' : ((v.length : Int) == (s.whr.length : Int)) = false := by rw [beq_eq_false_iff_ne]; omega
            clear heq
            go_wp2_with (first
              | (go_at_call 15; (with_reducible refine (implShared_c _ _ s _ HO3q.out hszs.out).mono ?_); rw [HVAL.out]; rintro e w5 ⟨rfl, hb5⟩; have HB5 : Hid (Below w.heap.size w w5) := Lib.hid (Below.next (W := w) HB3q.out hb5); clear hb5)
              | (go_at_call 21; refine (alive_any _).mono ?_; rintro e w6 ⟨rfl, hb6⟩))
            go_ret
            exact ⟨rfl, Below.next (W := w) HB5.out hb6⟩
        · have heq : v.length = s.whr.length := by rw [HV.out, viewS_yes hval, shView_length]
          have heq' : ((v.length : Int) == (s.whr.length : Int)) = true := by simp [heq]
          clear heq hval hke
          go_wp2_with (go_at_call 21; refine (alive_any _).mono ?_; rintro e w6 ⟨rfl, hb6⟩)
          go_ret
          exact ⟨rfl, Below.next (W := w) HB3q.out hb6⟩
set_option maxRecDepth 100000 in
theorem lifted (os : Os) (started : os.Started) (H : Type) (enc : TypeId × Value → H) :
    ReturnsInHanded {} Try.checked os 8 .any (Rows.fnSharedViewSpec.pre6 enc Try.prog Try.f8 Rows.fnSharedViewRow.domain false) (Rows.fnSharedViewSpec.post enc Try.prog Try.f8 false true false false) := by
  refine returnsInHanded_of_change (C := Try.checked) own_knob started (by kernel_rfl) Try.func8
    (ChangeSpec.witness6 (enc := enc) (C := Try.checked) false ⟨#[], #[.slice none 0 0], []⟩ 8 (by kernel_rfl) (by kernel_rfl) (by kernel_rfl) (by kernel_rfl)) ?_
  intro W base args ds gs before hval0 hW hcnd _
  have hval : ∀ (j : Nat) t v, Try.f8.params[j]? = some t → args[j]? = some v → Value.okWide Try.prog W .any base t v := hval0
  have hW' := hW
  obtain ⟨p, q, hA0, hV, rfl, hfz, hnd⟩ := hW
  have hA : DataW.TrodAll enc Try.prog W 0 (fun _ => true) true Try.f8.params.toList args.toList ds p := hA0
  rw [Try.params8] at hA hval
  obtain ⟨v0, vs0, d0, ds0, p0, q0, hargs, rfl, rfl, h0, r0⟩ := trodAll_cons hA
  obtain ⟨rfl, rfl, rfl⟩ := trodAll_nil r0
  obtain rfl : args = #[v0] := by cases args; simp_all
  obtain ⟨rfl, rfl⟩ := trodVars_none hV
  have k0 := h0
  have lt0 : ∀ x ∈ p0, x.block < W.heap.size := by obtain ⟨m, hm⟩ := k0; exact DataW.trod_lt m _ _ _ hm
  obtain ⟨A0, c0, l0, rfl, hl0, hm0, rd0, by0⟩ := open_bytes Try.underlying34 Try.underlying5 (by kernel_rfl) (hval 0 34 v0 rfl rfl) h0
  clear hA0 hval0
  refine (walk A0 c0 l0 W hl0 hm0 rd0 by0).mono fun e W' ⟨he, bel⟩ => ?_
  subst he
  exact ⟨_, rfl, _, _, _, [], _, [], hW', trodAll_mk1 (shut_bool Try.underlying4 _), (trodAll_cons_mk (Below.trod laid_out (by kernel_rfl) (of_decide_eq_true (by kernel_rfl)) k0 bel lt0) trodAll_mk0), rfl, bel.frame _, fun h => by cases h⟩
theorem over : Rows.fnSharedViewRow.holds Try.pinned (OpenSpec.ofChange Rows.fnSharedViewSpec) :=
  OpenClaim.holds_of_wide 8 Try.f8 rfl rfl rfl rfl rfl rfl rfl ⟨rfl, rfl, rfl, rfl, rfl⟩ rfl rfl rfl rfl rfl (by kernel_rfl) Try.func8 (by kernel_rfl)
    (of_decide_eq_true (by kernel_rfl)) (by unfold Func.isWrapper; first | (rw [if_pos (by decide +kernel)]; kernel_rfl) | (rw [if_neg (by decide +kernel)]; exact ⟨rfl, rfl⟩))
    (fun os started H enc _ => lifted os started H enc)
theorem proved : Rows.FnSharedViewSaid := over
end LwSw
end Go.Proofs.Ytpekccmhfkeadaa
