/-
  FnSharedValid: a valid volume with one user more of a value is invalid. No condition.
-/
import Derived.Test.YtpekccmhfkeadaaBase
import Derived.Test.YtpekccmhfkeadaaNum
import Derived.Test.YtpekccmhfkeadaaInts
import Derived.Test.YtpekccmhfkeadaaApp
import Derived.Test.YtpekccmhfkeadaaIntsW
import Derived.Test.YtpekccmhfkeadaaLib
import Derived.Test.YtpekccmhfkeadaaSpares
import Derived.Test.YtpekccmhfkeadaaOwn
import Derived.Test.YtpekccmhfkeadaaCopy
import Derived.Test.YtpekccmhfkeadaaShared
import Derived.Test.YtpekccmhfkeadaaSharedM
import Derived.Test.YtpekccmhfkeadaaSharedC
import Derived.Test.YtpekccmhfkeadaaSharedV
import Derived.Test.YtpekccmhfkeadaaSharedU
import Derived.Test.YtpekccmhfkeadaaSharedD
import Derived.Test.YtpekccmhfkeadaaSharedWM
import Derived.Test.YtpekccmhfkeadaaSameSh
import Derived.Test.YtpekccmhfkeadaaDraw
import Derived.Test.YtpekccmhfkeadaaDrawK
import Derived.Test.YtpekccmhfkeadaaDrawD
import Derived.Test.YtpekccmhfkeadaaDrawShd
import Derived.Test.YtpekccmhfkeadaaDrawShv
import Derived.Test.YtpekccmhfkeadaaOpen
import Derived.Laws.StructEq
import Derived.IntWalk
import Derived.StillTailTactics
namespace Go.Proofs.Ytpekccmhfkeadaa
open Go.RowKit Go.ChangeShapes Go.WideShapes Go.ChangeAt Go.Deep Go.Joins
namespace LwSx
theorem SharedRd.s0' {x0 x1 : Value} {s : Sh} {w : World} (h : SharedRd w [x0, x1] s) : SRd encIntS w x0 s.whr := by
  obtain ⟨u, v, h1, h2, h3⟩ := h
  simp only [List.cons.injEq, and_true] at h1
  rw [h1.1]; exact h2
theorem srd_n {α : Type} {E : Enc α} {w : World} {A : Option Addr} {c n : Nat} {l : List α} (h : Rd E w A l) (hn : l.length = n) (h1 : n ≤ c) (h3 : n ≤ maxLen) (h2 : A = none → c = 0) : SRd E w (.slice A n c) l := by
  subst hn; exact SRd.of h h1 h3 h2
/-- the copy stands -/
def BadMid (w : World) (N : Nat) (A1 : Option Addr) (c1 : Nat) (s : Sh) (v : Value) (wc : World) : Prop := ∃ X A6 c6 g6, v = .pointer (some ⟨X, 0, none⟩) ∧ N ≤ X ∧ N ≤ g6 ∧ g6 ≠ X ∧ Loc wc X [.slice A1 s.whr.length c1, .slice A6 s.cps.length c6] ∧ Row encCopyS wc g6 tyCopyS A6 c6 s.cps ∧ Rd eInt wc A1 s.whr ∧ Below w.heap.size w wc
set_option linter.unusedSimpArgs false in
set_option maxHeartbeats 8000000 in
theorem walk (A : Option Addr) (c : Nat) (l : List Int) (w : World) (hl : l.length ≤ c) (hm : c ≤ maxLen) (hr : Rd eByte w A l) (hb : ∀ x ∈ l, 0 ≤ x ∧ x ≤ 255) :
    Calls Try.prog 6 #[.slice A l.length c] w fun e w' => e = .returned (.bool true) ∧ Below w.heap.size w w' := by
  have HB := Lib.hid hb
  clear hb
  by_cases hsz : (1048576 : Int) < l.length
  · unfold maxLen at hm
    go_enter Try.func6, Try.ntmps6
    go_wp2
    go_ret
    exact ⟨rfl, (by repeat (first | with_reducible exact Below.refl _ _ | with_reducible assumption | with_reducible refine below_drewN ?_ _ | with_reducible refine Below.drew ?_ | with_reducible refine Below.alloc ?_ ?_ _ | with_reducible refine Below.setCell ?_ ?_ _ | (with_reducible refine Below.next ?_ (by assumption)) | omega | (focus (simp; omega)) | (focus (simp; done))))⟩
  · go_enter Try.func6, Try.ntmps6
    go_wp2_with fail
    refine (drawShVal_any A c l _ hl hm hr HB.out).mono ?_
    rintro e w1 ⟨y0, y1, s, rfl, hown, hs4, hb1⟩
    obtain ⟨Ay, cy, Ay', cy', rfl, rfl⟩ := sharedRd_lens (SharedOwn.rd hown)
    have hz1 := hb1.size
    have HB1 := Lib.hid hb1
    have HO1 := Lib.hid (SharedOwn.rd hown)
    clear hb1 hown
    have hszs : Hid (sizeShared s ≤ 1099511627776) := Lib.hid (by omega)
    have hwl : s.whr.length ≤ 400 := by unfold sizeShared at hs4; omega
    have hcl : s.cps.length ≤ 400 := by unfold sizeShared at hs4; omega
    have LX := Loc.newAt w1 [.slice Ay s.whr.length cy, .slice Ay' s.cps.length cy'] 30 (b := w1.heap.size) rfl
    obtain ⟨ok, hok⟩ : ∃ ok, ok = sharedB s := ⟨_, rfl⟩
    have HOK := Lib.hid hok
    clear hok
    go_wp2_with fail
    refine (implShared_c _ _ s _ (SharedRd.below HO1.out (by repeat (first | with_reducible exact Below.refl _ _ | with_reducible refine below_drewN ?_ _ | with_reducible refine Below.drew ?_ | with_reducible refine Below.alloc ?_ ?_ _ | with_reducible refine Below.setCell ?_ ?_ _ | omega | (focus (simp; omega)) | (focus (simp; done))))) hszs.out).mono ?_
    rw [← HOK.out]
    rintro e w2 ⟨rfl, hb2⟩
    replace LX := Loc.carryB LX (fun h => by ((repeat (first | with_reducible exact h | with_reducible refine Loc.drew ?_ | with_reducible refine Loc.drewN ?_ _ | with_reducible refine Loc.alloc ?_ _)); done)) hb2
    obtain ⟨x0, x1, xf⟩ := LX.two
    have zX := LX.lt
    have HB2 : Hid (Below w.heap.size w w2) := Lib.hid (Below.next (W := w) (by repeat (first | with_reducible exact HB1.out | with_reducible exact Below.refl _ _ | with_reducible refine below_drewN ?_ _ | with_reducible refine Below.drew ?_ | with_reducible refine Below.alloc ?_ ?_ _ | with_reducible refine Below.setCell ?_ ?_ _ | (with_reducible refine Below.next ?_ (by assumption)) | ((with_reducible refine Below.far' (by assumption) ?_ ?_ ?_); (focus (first | omega | (simp; omega) | (simp; done))); (focus (first | omega | (simp; omega) | (simp; done)))) | omega | (focus (simp; omega)) | (focus (simp; done)))) hb2)
    have HO2 := Lib.hid (SharedRd.below HO1.out (Below.next (by repeat (first | with_reducible exact Below.refl _ _ | with_reducible refine below_drewN ?_ _ | with_reducible refine Below.drew ?_ | with_reducible refine Below.alloc ?_ ?_ _ | with_reducible refine Below.setCell ?_ ?_ _ | omega | (focus (simp; omega)) | (focus (simp; done)))) hb2))
    have hz2 := hb2.size
    (try simp at hz2)
    clear hb2
    go_wp2_with fail
    refine (specShared_c _ _ s _ HO2.out hszs.out).mono ?_
    rw [← HOK.out]
    rintro e w3 ⟨rfl, hb3⟩
    replace LX := Loc.carryB LX (fun h => by ((repeat (first | with_reducible exact h | with_reducible refine Loc.drew ?_ | with_reducible refine Loc.drewN ?_ _ | with_reducible refine Loc.alloc ?_ _)); done)) hb3
    clear x0 x1 xf
    obtain ⟨x0, x1, xf⟩ := LX.two
    have zX3 := LX.lt
    have HB3 : Hid (Below w.heap.size w w3) := Lib.hid (Below.next (W := w) (by repeat (first | with_reducible exact HB2.out | with_reducible exact Below.refl _ _ | with_reducible refine below_drewN ?_ _ | with_reducible refine Below.drew ?_ | with_reducible refine Below.alloc ?_ ?_ _ | with_reducible refine Below.setCell ?_ ?_ _ | (with_reducible refine Below.next ?_ (by assumption)) | ((with_reducible refine Below.far' (by assumption) ?_ ?_ ?_); (focus (first | omega | (simp; omega) | (simp; done))); (focus (first | omega | (simp; omega) | (simp; done)))) | omega | (focus (simp; omega)) | (focus (simp; done)))) hb3)
    have HO3 := Lib.hid (SharedRd.below HO2.out hb3)
    have hz3 := hb3.size
    clear hb3
    have hoo : (ok != ok) = false := by simp
    cases ok
    · go_wp2_with (go_at_call 21; refine (alive_any _).mono ?_; rintro e w6 ⟨rfl, hb6⟩)
      go_ret
      exact ⟨rfl, Below.next (W := w) HB3.out hb6⟩
    · by_cases hc0 : s.cps.length = 0
      · have hc0' : ((s.cps.length : Int) == 0) = true := by simp [hc0]
        clear hc0
        go_wp2_with (go_at_call 21; refine (alive_any _).mono ?_; rintro e w6 ⟨rfl, hb6⟩)
        go_ret
        exact ⟨rfl, Below.next (W := w) HB3.out hb6⟩
      · have hc0' : ((s.cps.length : Int) == 0) = false := by rw [beq_eq_false_iff_ne]; omega
        have hcp : 0 < s.cps.length := by omega
        obtain ⟨hwp, hu1, hu2⟩ := shared_first HOK.out.symm hcp
        have HMU := Lib.hid (more_users HOK.out.symm hcp)
        have HRW : Hid (Rd eInt w3 Ay s.whr) := Lib.hid (SharedRd.whr HO3.out)
        have HRC : Hid (Rd encCopyS w3 Ay' s.cps) := Lib.hid (SharedRd.cps HO3.out)
        have HS0 := Lib.hid (LwSx.SharedRd.s0' HO3.out)
        have n2 : ([] : List Cp).length + s.cps.length ≤ maxLen := by simp [maxLen]; omega
        have b2 : (([] : List Cp).length + s.cps.length) * 16 ≤ 140737488355328 := by simp; omega
        clear hc0
        go_wp2
        go_cut [5] (fun v wc => BadMid w w3.heap.size Ay cy s v wc)
        case first =>
          go_region_held3 (fun w' => w'.cell? ⟨w1.heap.size, 0, none⟩ = some (.slice Ay s.whr.length cy) ∧ w'.cell? ⟨w1.heap.size, 1, none⟩ = some (.slice Ay' s.cps.length cy')) (first | (refine ⟨?_, ?_⟩ <;> assumption) | go_keep | (refine ⟨?_, ?_⟩ <;> (simp [go_sem, *]; done)))
            ((refine step_append_at (by rfl) (.tmp 28) (.tmp 30) (by rfl) elCopyS ([] : List Cp) (by rfl) (by repeat (first | ((with_reducible refine Row.made0 ?_); (focus (first | with_reducible rfl | omega | (simp; omega) | (simp; done)))) | with_reducible refine Row.drew ?_ | with_reducible refine Row.drewN ?_ _ | with_reducible refine Row.alloc ?_ _ | ((with_reducible refine Row.far' (by assumption) ?_ ?_); (focus (first | omega | (simp; omega) | (simp; done)))))) Ay' cy' s.cps (by rfl) ?_ n2 b2 ?_; (focus (exact (by repeat (first | with_reducible exact HRC.out | with_reducible refine Rd.drew ?_ | with_reducible refine Rd.drewN ?_ _ | with_reducible refine Rd.alloc ?_ _ | (with_reducible refine Rd.below ?_ (by assumption)) | ((with_reducible refine Rd.store HRC.out ?_ ?_ _); (focus (first | omega | (simp; omega) | (simp; done)))) | ((with_reducible refine Rd.far' HRC.out (by assumption) ?_ ?_); (focus (first | omega | (simp; omega) | (simp; done)))))))); intro A6 c6 g6 w4 l6 hl6 _ _ row6 gr6 gg6; have e6 := hl6.out; simp only [List.nil_append] at e6; subst e6; have M0 := Loc.carry LX (fun h => by ((repeat (first | with_reducible exact h | with_reducible refine Loc.drew ?_ | with_reducible refine Loc.drewN ?_ _ | with_reducible refine Loc.alloc ?_ _)); done)) gr6 (by first | omega | (simp; omega) | (simp; done)); obtain ⟨m0, m1, mf⟩ := M0.two; have zM := M0.lt; have HB4 := Lib.hid (Below.gin (D := w.heap.size) (a := w) (by repeat (first | with_reducible exact HB3.out | with_reducible exact Below.refl _ _ | with_reducible refine below_drewN ?_ _ | with_reducible refine Below.drew ?_ | with_reducible refine Below.alloc ?_ ?_ _ | with_reducible refine Below.setCell ?_ ?_ _ | (with_reducible refine Below.next ?_ (by assumption)) | ((with_reducible refine Below.far' (by assumption) ?_ ?_ ?_); (focus (first | omega | (simp; omega) | (simp; done))); (focus (first | omega | (simp; omega) | (simp; done)))) | omega | (focus (simp; omega)) | (focus (simp; done)))) (GIn.of_grown gr6 (Nat.le_refl _) (Nat.lt_succ_self _)) (by first | omega | (simp; omega) | (simp; done)) (by first | omega | (simp; omega) | (simp; done))); have hz4 := gr6.size; have lt6 := row6.lt hcp; (try simp at hz4); (try simp at gg6); have HRW4 := Lib.hid (Rd.far' (w0 := w3) HRW.out gr6 (by first | omega | (simp; omega) | (simp; done)) (by repeat (first | with_reducible exact HRW.out | with_reducible refine Rd.drew ?_ | with_reducible refine Rd.drewN ?_ _ | with_reducible refine Rd.alloc ?_ _ | (with_reducible refine Rd.below ?_ (by assumption))))); obtain ⟨hc6, hf6⟩ := gcell gr6))
          all_goals
            go_wp2_with fail
            go_meet
            refine ⟨_, A6, c6, g6, rfl, by omega, by omega, by omega, (by repeat (first | with_reducible assumption | with_reducible apply Loc.fill3 | with_reducible apply Loc.fill2 | ((with_reducible refine Loc.newAt' ?_ rfl); (focus (first | with_reducible rfl | omega | (simp; omega) | (simp; done)))) | with_reducible refine Loc.drew ?_ | with_reducible refine Loc.drewN ?_ _ | with_reducible refine Loc.alloc ?_ _ | (with_reducible refine Loc.below ?_ (by assumption)) | ((with_reducible refine Loc.other' ?_ ?_ _); (focus (first | omega | (simp; omega) | (simp; done)))) | ((with_reducible refine Loc.far' (by assumption) ?_ ?_); (focus (first | omega | (simp; omega) | (simp; done)))))), (by repeat (first | with_reducible exact row6 | with_reducible refine Row.drew ?_ | with_reducible refine Row.drewN ?_ _ | with_reducible refine Row.alloc ?_ _ | (with_reducible refine Row.below ?_ (by assumption)) | ((with_reducible refine Row.other ?_ ?_ _); rotate_left; (focus (first | omega | (simp; omega) | (simp; done)))) | ((with_reducible refine Row.far' (by assumption) ?_ ?_); (focus (first | omega | (simp; omega) | (simp; done)))))), (by repeat (first | with_reducible exact HRW4.out | with_reducible refine Rd.drew ?_ | with_reducible refine Rd.drewN ?_ _ | with_reducible refine Rd.alloc ?_ _ | (with_reducible refine Rd.below ?_ (by assumption)) | ((with_reducible refine Rd.store HRW.out ?_ ?_ _); (focus (first | omega | (simp; omega) | (simp; done)))) | ((with_reducible refine Rd.far' HRW.out (by assumption) ?_ ?_); (focus (first | omega | (simp; omega) | (simp; done)))))), (by repeat (first | with_reducible exact HB4.out | with_reducible exact Below.refl _ _ | with_reducible refine below_drewN ?_ _ | with_reducible refine Below.drew ?_ | with_reducible refine Below.alloc ?_ ?_ _ | with_reducible refine Below.setCell ?_ ?_ _ | (with_reducible refine Below.next ?_ (by assumption)) | ((with_reducible refine Below.far' (by assumption) ?_ ?_ ?_); (focus (first | omega | (simp; omega) | (simp; done))); (focus (first | omega | (simp; omega) | (simp; done)))) | omega | (focus (simp; omega)) | (focus (simp; done))))⟩
        case rest =>
          obtain ⟨X, A6, c6, g6, rfl, hX, hg6, hg6X, LX6, row6, rdw, hbb⟩ := hcut
          obtain ⟨rfl, hgl6, hfz6, hcc6⟩ := row6.rCopyS hcp
          obtain ⟨-, hcu⟩ := hcc6 0 hcp
          have hfz0 := hfz6 (0 * 2 + 1)
          have hSB := row6.setBCopyS (k := 0) hcp ((s.cps[0]'hcp).usr + 1)
          rw [Nat.zero_mul, Nat.zero_add] at hcu hfz0 hSB
          have HSB := Lib.hid hSB
          have HRD := Lib.hid rdw
          have HBB := Lib.hid hbb
          have hzc := hbb.size
          have hcap : (s.cps.set 0 ⟨(s.cps[0]'hcp).val, (s.cps[0]'hcp).usr + 1⟩).length = s.cps.length := by simp
          have HCAP := Lib.hid hcap
          obtain ⟨A', c', he, -, hl1, hl2, hl3⟩ := HS0.out
          injection he with he1 he2 he3
          subst he1; subst he3
          have HL := Lib.hid (And.intro hl1 (And.intro hl2 hl3))
          have hc6 := row6.le
          obtain ⟨us, hus⟩ : ∃ us, us = (s.cps[0]'hcp).usr := ⟨_, rfl⟩
          rw [← hus] at hcu HSB HMU HCAP hu1 hu2
          obtain ⟨u0, u1, uf⟩ := LX6.two
          have zX6 := LX6.lt
          clear hcc6 hfz6 hSB rdw row6 hbb hcap he2 hl1 hl2 hl3 hus x0 x1 xf LX zX3
          go_wp2
          go_still_tail 10, (by kernel_rfl)
          change wpList _ _ _ _ _ wc.drew
          go_wp2_with fail
          have hrd2 : Hid (SharedRd ((wc.setCell ⟨g6, 1, none⟩ (.int .i64 (us + 1))).drew) [.slice Ay s.whr.length cy, .slice (some ⟨g6, 0, none⟩) s.cps.length c6] ⟨s.whr, s.cps.set 0 ⟨(s.cps[0]'hcp).val, us + 1⟩⟩) := Lib.hid ⟨_, _, rfl, SRd.of (by repeat (first | with_reducible exact HRD.out | with_reducible refine Rd.drew ?_ | with_reducible refine Rd.drewN ?_ _ | with_reducible refine Rd.alloc ?_ _ | (with_reducible refine Rd.below ?_ (by assumption)) | ((with_reducible refine Rd.store HRW.out ?_ ?_ _); (focus (first | omega | (simp; omega) | (simp; done)))) | ((with_reducible refine Rd.far' HRW.out (by assumption) ?_ ?_); (focus (first | omega | (simp; omega) | (simp; done)))))) HL.out.1 HL.out.2.1 HL.out.2.2, srd_n HSB.out.rd HCAP.out hc6 (by simp only [maxLen]; omega) (fun h => by cases h)⟩
          refine (implShared_c _ _ ⟨s.whr, s.cps.set 0 ⟨(s.cps[0]'hcp).val, us + 1⟩⟩ _ hrd2.out (by unfold sizeShared; simp; omega)).mono ?_
          rw [HMU.out]
          rintro e w7 ⟨rfl, hb7⟩
          go_wp2
          go_ret
          exact ⟨rfl, Below.next (W := w) (by repeat (first | with_reducible exact HBB.out | with_reducible exact Below.refl _ _ | with_reducible refine below_drewN ?_ _ | with_reducible refine Below.drew ?_ | with_reducible refine Below.alloc ?_ ?_ _ | with_reducible refine Below.setCell ?_ ?_ _ | (with_reducible refine Below.next ?_ (by assumption)) | ((with_reducible refine Below.far' (by assumption) ?_ ?_ ?_); (focus (first | omega | (simp; omega) | (simp; done))); (focus (first | omega | (simp; omega) | (simp; done)))) | omega | (focus (simp; omega)) | (focus (simp; done)))) hb7⟩
set_option maxRecDepth 100000 in
theorem lifted (os : Os) (started : os.Started) (H : Type) (enc : TypeId × Value → H) :
    ReturnsInHanded {} Try.checked os 6 .any (Rows.fnSharedValidSpec.pre6 enc Try.prog Try.f6 Rows.fnSharedValidRow.domain false) (Rows.fnSharedValidSpec.post enc Try.prog Try.f6 false true false false) := by
  refine returnsInHanded_of_change (C := Try.checked) own_knob started (by kernel_rfl) Try.func6
    (ChangeSpec.witness6 (enc := enc) (C := Try.checked) false ⟨#[], #[.slice none 0 0], []⟩ 8 (by kernel_rfl) (by kernel_rfl) (by kernel_rfl) (by kernel_rfl)) ?_
  intro W base args ds gs before hval0 hW hcnd _
  have hval : ∀ (j : Nat) t v, Try.f6.params[j]? = some t → args[j]? = some v → Value.okWide Try.prog W .any base t v := hval0
  have hW' := hW
  obtain ⟨p, q, hA0, hV, rfl, hfz, hnd⟩ := hW
  have hA : DataW.TrodAll enc Try.prog W 0 (fun _ => true) true Try.f6.params.toList args.toList ds p := hA0
  rw [Try.params6] at hA hval
  obtain ⟨v0, vs0, d0, ds0, p0, q0, hargs, rfl, rfl, h0, r0⟩ := trodAll_cons hA
  obtain ⟨rfl, rfl, rfl⟩ := trodAll_nil r0
  obtain rfl : args = #[v0] := by cases args; simp_all
  obtain ⟨rfl, rfl⟩ := trodVars_none hV
  have k0 := h0
  have lt0 : ∀ x ∈ p0, x.block < W.heap.size := by obtain ⟨m, hm⟩ := k0; exact DataW.trod_lt m _ _ _ hm
  obtain ⟨A0, c0, l0, rfl, hl0, hm0, rd0, by0⟩ := open_bytes Try.underlying34 Try.underlying5 (by kernel_rfl) (hval 0 34 v0 rfl rfl) h0
  clear hA0 hval0
  refine (walk A0 c0 l0 W hl0 hm0 rd0 by0).mono fun e W' ⟨he, bel⟩ => ?_
  subst he
  exact ⟨_, rfl, _, _, _, [], _, [], hW', trodAll_mk1 (shut_bool Try.underlying4 _), (trodAll_cons_mk (Below.trod laid_out (by kernel_rfl) (of_decide_eq_true (by kernel_rfl)) k0 bel lt0) trodAll_mk0), rfl, bel.frame _, fun h => by cases h⟩
theorem over : Rows.fnSharedValidRow.holds Try.pinned (OpenSpec.ofChange Rows.fnSharedValidSpec) :=
  OpenClaim.holds_of_wide 6 Try.f6 rfl rfl rfl rfl rfl rfl rfl ⟨rfl, rfl, rfl, rfl, rfl⟩ rfl rfl rfl rfl rfl (by kernel_rfl) Try.func6 (by kernel_rfl)
    (of_decide_eq_true (by kernel_rfl)) (by unfold Func.isWrapper; first | (rw [if_pos (by decide +kernel)]; kernel_rfl) | (rw [if_neg (by decide +kernel)]; exact ⟨rfl, rfl⟩))
    (fun os started H enc _ => lifted os started H enc)
theorem proved : Rows.FnSharedValidSaid := over
end LwSx
end Go.Proofs.Ytpekccmhfkeadaa
