/-
  FnSharedOne: after writing the same value to all sectors there is one value with all sectors as users. No condition.
-/
import Derived.Test.YtpekccmhfkeadaaBase
import Derived.Test.YtpekccmhfkeadaaNum
import Derived.Test.YtpekccmhfkeadaaInts
import Derived.Test.YtpekccmhfkeadaaApp
import Derived.Test.YtpekccmhfkeadaaIntsW
import Derived.Test.YtpekccmhfkeadaaLib
import Derived.Test.YtpekccmhfkeadaaSpares
import Derived.Test.YtpekccmhfkeadaaOwn
import Derived.Test.YtpekccmhfkeadaaCopy
import Derived.Test.YtpekccmhfkeadaaShared
import Derived.Test.YtpekccmhfkeadaaSharedM
import Derived.Test.YtpekccmhfkeadaaSharedC
import Derived.Test.YtpekccmhfkeadaaSharedV
import Derived.Test.YtpekccmhfkeadaaSharedU
import Derived.Test.YtpekccmhfkeadaaSharedD
import Derived.Test.YtpekccmhfkeadaaSharedWM
import Derived.Test.YtpekccmhfkeadaaDel
import Derived.Test.YtpekccmhfkeadaaThinC
import Derived.Test.YtpekccmhfkeadaaSharedP
import Derived.Test.YtpekccmhfkeadaaSameSh
import Derived.Test.YtpekccmhfkeadaaDraw
import Derived.Test.YtpekccmhfkeadaaDrawK
import Derived.Test.YtpekccmhfkeadaaDrawD
import Derived.Test.YtpekccmhfkeadaaDrawShd
import Derived.Test.YtpekccmhfkeadaaDrawShw
import Derived.Test.YtpekccmhfkeadaaOpen
import Derived.Laws.StructEq
import Derived.IntWalk
import Derived.StillTailTactics
namespace Go.Proofs.Ytpekccmhfkeadaa
open Go.RowKit Go.ChangeShapes Go.WideShapes Go.ChangeAt Go.Deep Go.Joins
namespace LwSo
theorem ones_step {l : List Int} {k : Nat} (hk : k < l.length) (h : l.take k = List.replicate k 3) : (l.set k 3).take (k + 1) = List.replicate (k + 1) 3 := by
  rw [List.take_succ_eq_append_getElem (by simpa using hk), List.getElem_set_self, List.take_set_of_le (Nat.le_refl _), h, List.replicate_succ']
theorem cp_eql (p : Cp) (w : World) : (binOp .eql 47 (.agg #[.int .i64 p.val, .int .i64 p.usr]) (.agg #[.int .i64 p.val, .int .i64 p.usr])).run Try.prog w = .ok (.bool true) w := by
  have h1 := cp_held
  have h2 : ((p.val == p.val) && (p.usr == p.usr)) = true := by simp
  rw [← h2]
  simp [go_sem, h1]
theorem cps_small {s : Sh} (h : sharedB s = true) (hl : 0 < s.whr.length) : s.cps.length ≤ 400 := by
  obtain ⟨_, h2, _⟩ := sharedB_iff.1 h
  have hr := h2.rng _ (List.getElem_mem hl)
  obtain ⟨o, ho⟩ := Int.eq_ofNat_of_zero_le hr.1
  have := (put_facts h hl ho (v := 3) (by omega)).2.1
  omega
theorem two_set {B C X : Nat} {w : World} {xs : List Value} {s : Sh} (h : SharedOwn B w C xs s) (hX : X < B) (u v : Value) : SharedRd ((w.setCell ⟨X, 0, none⟩ u).setCell ⟨X, 1, none⟩ v) xs s :=
  SharedOwn.rd (SharedOwn.gin h (GIn.of_grown (grownBy_trans (grownBy_setCell w X 0 u) (grownBy_setCell _ X 1 v)) (Nat.le_refl X) (Nat.lt_succ_self X)) (.inr hX))
theorem put_step {t : Sh} {k n : Nat} (h1 : t.whr.length = n) (h2 : sharedB t = true) (h3 : (shView t).take k = List.replicate k 3) (hk : k < n) : (putS t k 3).whr.length = n ∧ sharedB (putS t k 3) = true ∧ (shView (putS t k 3)).take (k + 1) = List.replicate (k + 1) 3 := by
  subst h1
  have hp : putOk t k 3 = true := putOk_yes h2 (inB_true.2 (by omega)) (by decide)
  rw [putS_yes hp, Int.toNat_natCast]
  obtain ⟨a, b⟩ := putSh_ok h2 hk (v := 3) (by omega)
  refine ⟨?_, a, ?_⟩
  · have := congrArg List.length b
    simpa [shView] using this
  · rw [b]
    exact ones_step (by rw [shView_length]; exact hk) h3
theorem put_len {s : Sh} (h : sharedB s = true) {k : Nat} (hk : k < s.whr.length) : (putSh s k 3).whr.length = s.whr.length := by
  have := congrArg List.length (putSh_ok h hk (v := 3) (by omega)).2
  simpa [shView] using this
set_option maxHeartbeats 8000000 in
theorem walk (A : Option Addr) (c : Nat) (l : List Int) (w : World) (hl : l.length ≤ c) (hm : c ≤ maxLen) (hr : Rd eByte w A l) (hb : ∀ x ∈ l, 0 ≤ x ∧ x ≤ 255) :
    Calls Try.prog 9 #[.slice A l.length c] w fun e w' => e = .returned (.bool true) ∧ Below w.heap.size w w' := by
  have HB := Lib.hid hb
  clear hb
  by_cases hsz : (1048576 : Int) < l.length
  · unfold maxLen at hm
    go_enter Try.func9, Try.ntmps9
    go_wp2
    go_ret
    exact ⟨rfl, (by repeat (first | with_reducible exact Below.refl _ _ | with_reducible assumption | with_reducible refine below_drewN ?_ _ | with_reducible refine Below.drew ?_ | with_reducible refine Below.alloc ?_ ?_ _ | with_reducible refine Below.setCell ?_ ?_ _ | (with_reducible refine Below.next ?_ (by assumption)) | omega | (focus (simp; omega)) | (focus (simp; done))))⟩
  · go_enter Try.func9, Try.ntmps9
    go_wp2_with fail
    refine (drawShW_any A c l _ hl hm hr HB.out).mono ?_
    rintro e w1 ⟨y0, y1, s, x, y, rfl, hown, hs4, hb1⟩
    obtain ⟨Ay, cy, Ay', cy', rfl, rfl⟩ := sharedRd_lens (SharedOwn.rd hown)
    have hz1 := hb1.size
    have HB1 := Lib.hid hb1
    have HO1 := Lib.hid (SharedOwn.rd hown)
    clear hb1 hown
    have hszs : Hid (sizeShared s ≤ 1099511627776) := Lib.hid (by omega)
    have hwl : s.whr.length ≤ 400 := by unfold sizeShared at hs4; omega
    have LX := Loc.newAt w1 [.slice Ay s.whr.length cy, .slice Ay' s.cps.length cy'] 30 (b := w1.heap.size) rfl
    obtain ⟨ok, hok⟩ : ∃ ok, ok = sharedB s := ⟨_, rfl⟩
    have HOK := Lib.hid hok
    clear hok
    have hoo : (ok != ok) = false := by simp
    have k0 := (Loc.two LX).1
    have k1 := (Loc.two LX).2.1
    go_wp2_with fail
    go_region_held3 (fun w' => w'.cell? ⟨w1.heap.size, 0, none⟩ = some (.slice Ay s.whr.length cy) ∧ w'.cell? ⟨w1.heap.size, 1, none⟩ = some (.slice Ay' s.cps.length cy')) (first | assumption | (refine ⟨?_, ?_⟩ <;> assumption) | (refine ⟨?_, ?_⟩ <;> (simp [go_sem, *]; done)) | go_keep) (first
      | (go_at_call 15; (with_reducible refine (implShared_c _ _ s _ (SharedRd.below HO1.out (by repeat (first | with_reducible exact Below.refl _ _ | with_reducible refine below_drewN ?_ _ | with_reducible refine Below.drew ?_ | with_reducible refine Below.alloc ?_ ?_ _ | with_reducible refine Below.setCell ?_ ?_ _ | omega | (focus (simp; omega)) | (focus (simp; done))))) hszs.out).mono ?_); rw [← HOK.out]; rintro e w2 ⟨rfl, hb2⟩; have LX2 := Loc.carryB LX (fun h => by ((repeat (first | with_reducible exact h | with_reducible refine Loc.drew ?_ | with_reducible refine Loc.drewN ?_ _ | with_reducible refine Loc.alloc ?_ _)); done)) hb2; obtain ⟨x0, x1, xf⟩ := LX2.two; have zX := LX2.lt; have HB2 : Hid (Below w.heap.size w w2) := Lib.hid (Below.next (W := w) (by repeat (first | with_reducible exact HB1.out | with_reducible exact Below.refl _ _ | with_reducible refine below_drewN ?_ _ | with_reducible refine Below.drew ?_ | with_reducible refine Below.alloc ?_ ?_ _ | with_reducible refine Below.setCell ?_ ?_ _ | (with_reducible refine Below.next ?_ (by assumption)) | ((with_reducible refine Below.far' (by assumption) ?_ ?_ ?_); (focus (first | omega | (simp; omega) | (simp; done))); (focus (first | omega | (simp; omega) | (simp; done)))) | omega | (focus (simp; omega)) | (focus (simp; done)))) hb2); have HO2 := Lib.hid (SharedRd.below HO1.out (Below.next (by repeat (first | with_reducible exact Below.refl _ _ | with_reducible refine below_drewN ?_ _ | with_reducible refine Below.drew ?_ | with_reducible refine Below.alloc ?_ ?_ _ | with_reducible refine Below.setCell ?_ ?_ _ | omega | (focus (simp; omega)) | (focus (simp; done)))) hb2)); have hz2 := hb2.size; (try simp at hz2); clear hb2)
      | (go_at_call 13; (with_reducible refine (specShared_c _ _ s _ HO2.out hszs.out).mono ?_); rw [← HOK.out]; rintro e w3 ⟨rfl, hb3⟩; have LX3 := Loc.carryB LX2 (fun h => by ((repeat (first | with_reducible exact h | with_reducible refine Loc.drew ?_ | with_reducible refine Loc.drewN ?_ _ | with_reducible refine Loc.alloc ?_ _)); done)) hb3; obtain ⟨z0, z1, zf⟩ := LX3.two; have zX3 := LX3.lt; have HB3 : Hid (Below w.heap.size w w3) := Lib.hid (Below.next (W := w) HB2.out hb3); have HO3 := Lib.hid (SharedRd.below HO2.out hb3); have hz3 := hb3.size; clear hb3))
    cases ok
    · have HV3 : Hid (sharedB s = false) := Lib.hid HOK.out.symm
      go_wp2_with (first
        | (go_at_call 13; (with_reducible refine (specShared_c _ _ s _ HO3.out hszs.out).mono ?_); rw [HV3.out]; rintro e w4 ⟨rfl, hb4⟩; have LX4 := Loc.carryB LX3 (fun h => by ((repeat (first | with_reducible exact h | with_reducible refine Loc.drew ?_ | with_reducible refine Loc.drewN ?_ _ | with_reducible refine Loc.alloc ?_ _)); done)) hb4; obtain ⟨p0, p1, pf⟩ := LX4.two; have HB4 : Hid (Below w.heap.size w w4) := Lib.hid (Below.next (W := w) HB3.out hb4); clear hb4)
        | (go_at_call 21; refine (alive_any _).mono ?_; rintro e w6 ⟨rfl, hb6⟩))
      go_ret
      exact ⟨rfl, Below.next (W := w) HB4.out hb6⟩
    · have HV3 : Hid (sharedB s = true) := Lib.hid HOK.out.symm
      go_wp2_with fail
      refine (specShared_c _ _ s _ HO3.out hszs.out).mono ?_
      rw [HV3.out]
      rintro e w4 ⟨rfl, hb4⟩
      have LX4 := Loc.carryB LX3 (fun h => by ((repeat (first | with_reducible exact h | with_reducible refine Loc.drew ?_ | with_reducible refine Loc.drewN ?_ _ | with_reducible refine Loc.alloc ?_ _)); done)) hb4
      obtain ⟨p0, p1, pf⟩ := LX4.two
      have HB4 : Hid (Below w.heap.size w w4) := Lib.hid (Below.next (W := w) HB3.out hb4)
      have HO4 := Lib.hid (SharedRd.below HO3.out hb4)
      have hz4 := hb4.size
      have zX4 := LX4.lt
      clear hb4 x0 x1 xf z0 z1 zf
      by_cases hn : s.whr.length = 0
      · have hn' : ((s.whr.length : Int) == 0) = true := by simp [hn]
        clear hn
        go_wp2_with (go_at_call 21; refine (alive_any _).mono ?_; rintro e w6 ⟨rfl, hb6⟩)
        go_ret
        exact ⟨rfl, Below.next (W := w) HB4.out hb6⟩
      · have hn' : ((s.whr.length : Int) == 0) = false := by rw [beq_eq_false_iff_ne]; omega
        have hpos : 0 < s.whr.length := by omega
        clear hn
        go_wp2
        clear hn'
        go_loopw [7] (fun i wr => ∃ k : Nat, k ≤ s.whr.length ∧ i = .int .i64 k ∧ ∃ (t : Sh) (At : Option Addr) (ct : Nat) (Bt : Option Addr) (dt : Nat), Hid (t.whr.length = s.whr.length ∧ sharedB t = true ∧ (shView t).take k = List.replicate k 3) ∧ Loc wr w1.heap.size [.slice At t.whr.length ct, .slice Bt t.cps.length dt] ∧ Hid (SharedRd wr [.slice At t.whr.length ct, .slice Bt t.cps.length dt] t) ∧ Below w.heap.size w wr) (fun i _ => s.whr.length - (intOf i).toNat)
        case atStart => exact ⟨0, Nat.zero_le _, rfl, s, Ay, cy, Ay', cy', Lib.hid ⟨rfl, HV3.out, by simp⟩, LX4, HO4, HB4.out⟩
        case round =>
          obtain ⟨k, hk, rfl, t, At, ct, Bt, dt, HT, LW, HRD, hbw⟩ := hrel
          have HBW := Lib.hid hbw
          have hszw := hbw.size
          clear hbw
          have hcl := cps_small HT.out.2.1 (by have := HT.out.1; omega)
          obtain ⟨u0, u1, uf⟩ := LW.two
          have zW := LW.lt
          by_cases hlt : k < s.whr.length
          · obtain ⟨a1, a2⟩ := put_step HT.out.1 HT.out.2.1 HT.out.2.2 hlt
            have htl : t.whr.length ≤ 400 := by have := HT.out.1; omega
            have hts : sizeShared t ≤ 1099511627776 := by unfold sizeShared; omega
            obtain ⟨t', ht'⟩ : ∃ t', t' = putS t k 3 := ⟨_, rfl⟩
            have HT' := Lib.hid ht'
            rw [← ht'] at a1 a2
            have HA := Lib.hid (And.intro a1 a2)
            clear a1 a2 ht'
            go_wp2_with fail
            refine (implPut_c _ _ t k 3 _ HRD.out hts).mono ?_
            rw [← HT'.out]
            rintro e w5 ⟨q0, q1, rfl, O5, hb5⟩
            obtain ⟨A5, c5, B5, d5, rfl, rfl⟩ := sharedRd_lens (SharedOwn.rd O5)
            have HR5 := Lib.hid O5
            have LW5 := Loc.carryB LW (fun h => by ((repeat (first | with_reducible exact h | with_reducible refine Loc.drew ?_ | with_reducible refine Loc.drewN ?_ _ | with_reducible refine Loc.alloc ?_ _)); done)) hb5
            have zW5 := LW5.lt
            have HB5 : Hid (Below w.heap.size w w5) := Lib.hid (Below.next (W := w) HBW.out hb5)
            have hz5 := hb5.size
            clear O5 hb5 u0 u1 uf
            obtain ⟨u0, u1, uf⟩ := LW5.two
            go_wp2
            go_roundw
            case rel =>
              refine ⟨k + 1, by omega, by go_num, t', A5, c5, B5, d5, Lib.hid ⟨HA.out.1, HA.out.2.1, HA.out.2.2⟩, Loc.fill2 LW5 _ _, ?_, ?_⟩
              · exact Lib.hid (two_set HR5.out zW _ _)
              · exact Below.setCell (Below.setCell HB5.out (by omega) _) (by omega) _
            case measure => simp [intOf]; omega
          · have hke : k = s.whr.length := by omega
            have hone : t.cps = [⟨3, s.whr.length⟩] := shared_one HT.out.2.1 hpos (by
              have h1 := HT.out.2.2
              rw [hke, List.take_of_length_le (by rw [shView_length]; have := HT.out.1; omega)] at h1
              exact h1)
            clear hke
            have hl1 : t.cps.length = 1 := by rw [hone]; rfl
            obtain ⟨b, off, rfl, hbl, hc, hc2⟩ := (SharedRd.cps HRD.out).rCopyS (k := 0) (by omega)
            have hg0 : t.cps[0]'(by omega) = ⟨3, s.whr.length⟩ := by simp [hone]
            rw [hg0] at hc hc2
            rw [hl1] at u1
            simp only [Nat.zero_mul, Nat.add_zero] at hc hc2
            have hcp := cp_eql ⟨3, s.whr.length⟩
            simp only at hcp
            clear hg0 hl1 hone
            go_wp2
            go_ret
            exact ⟨rfl, HBW.out⟩
set_option maxRecDepth 100000 in
theorem lifted (os : Os) (started : os.Started) (H : Type) (enc : TypeId × Value → H) :
    ReturnsInHanded {} Try.checked os 9 .any (Rows.fnSharedOneSpec.pre6 enc Try.prog Try.f9 Rows.fnSharedOneRow.domain false) (Rows.fnSharedOneSpec.post enc Try.prog Try.f9 false true false false) := by
  refine returnsInHanded_of_change (C := Try.checked) own_knob started (by kernel_rfl) Try.func9
    (ChangeSpec.witness6 (enc := enc) (C := Try.checked) false ⟨#[], #[.slice none 0 0], []⟩ 8 (by kernel_rfl) (by kernel_rfl) (by kernel_rfl) (by kernel_rfl)) ?_
  intro W base args ds gs before hval0 hW hcnd _
  have hval : ∀ (j : Nat) t v, Try.f9.params[j]? = some t → args[j]? = some v → Value.okWide Try.prog W .any base t v := hval0
  have hW' := hW
  obtain ⟨p, q, hA0, hV, rfl, hfz, hnd⟩ := hW
  have hA : DataW.TrodAll enc Try.prog W 0 (fun _ => true) true Try.f9.params.toList args.toList ds p := hA0
  rw [Try.params9] at hA hval
  obtain ⟨v0, vs0, d0, ds0, p0, q0, hargs, rfl, rfl, h0, r0⟩ := trodAll_cons hA
  obtain ⟨rfl, rfl, rfl⟩ := trodAll_nil r0
  obtain rfl : args = #[v0] := by cases args; simp_all
  obtain ⟨rfl, rfl⟩ := trodVars_none hV
  have k0 := h0
  have lt0 : ∀ x ∈ p0, x.block < W.heap.size := by obtain ⟨m, hm⟩ := k0; exact DataW.trod_lt m _ _ _ hm
  obtain ⟨A0, c0, l0, rfl, hl0, hm0, rd0, by0⟩ := open_bytes Try.underlying34 Try.underlying5 (by kernel_rfl) (hval 0 34 v0 rfl rfl) h0
  clear hA0 hval0
  refine (walk A0 c0 l0 W hl0 hm0 rd0 by0).mono fun e W' ⟨he, bel⟩ => ?_
  subst he
  exact ⟨_, rfl, _, _, _, [], _, [], hW', trodAll_mk1 (shut_bool Try.underlying4 _), (trodAll_cons_mk (Below.trod laid_out (by kernel_rfl) (of_decide_eq_true (by kernel_rfl)) k0 bel lt0) trodAll_mk0), rfl, bel.frame _, fun h => by cases h⟩
theorem over : Rows.fnSharedOneRow.holds Try.pinned (OpenSpec.ofChange Rows.fnSharedOneSpec) :=
  OpenClaim.holds_of_wide 9 Try.f9 rfl rfl rfl rfl rfl rfl rfl ⟨rfl, rfl, rfl, rfl, rfl⟩ rfl rfl rfl rfl rfl (by kernel_rfl) Try.func9 (by kernel_rfl)
    (of_decide_eq_true (by kernel_rfl)) (by unfold Func.isWrapper; first | (rw [if_pos (by decide +kernel)]; kernel_rfl) | (rw [if_neg (by decide +kernel)]; exact ⟨rfl, rfl⟩))
    (fun os started H enc _ => lifted os started H enc)
theorem proved : Rows.FnSharedOneSaid := over
end LwSo
end Go.Proofs.Ytpekccmhfkeadaa
