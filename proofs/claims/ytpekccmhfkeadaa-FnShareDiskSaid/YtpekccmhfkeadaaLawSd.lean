/-
  FnShareDisk: shared disks show the same. No condition.
-/
import Derived.Test.YtpekccmhfkeadaaBase
import Derived.Test.YtpekccmhfkeadaaNum
import Derived.Test.YtpekccmhfkeadaaInts
import Derived.Test.YtpekccmhfkeadaaApp
import Derived.Test.YtpekccmhfkeadaaIntsW
import Derived.Test.YtpekccmhfkeadaaLib
import Derived.Test.YtpekccmhfkeadaaSpares
import Derived.Test.YtpekccmhfkeadaaOwn
import Derived.Test.YtpekccmhfkeadaaCopy
import Derived.Test.YtpekccmhfkeadaaShared
import Derived.Test.YtpekccmhfkeadaaSharedM
import Derived.Test.YtpekccmhfkeadaaSharedC
import Derived.Test.YtpekccmhfkeadaaSharedV
import Derived.Test.YtpekccmhfkeadaaSharedU
import Derived.Test.YtpekccmhfkeadaaSharedD
import Derived.Test.YtpekccmhfkeadaaSharedWM
import Derived.Test.YtpekccmhfkeadaaSameSh
import Derived.Test.YtpekccmhfkeadaaDraw
import Derived.Test.YtpekccmhfkeadaaDrawK
import Derived.Test.YtpekccmhfkeadaaDrawD
import Derived.Test.YtpekccmhfkeadaaOpen
import Derived.Laws.StructEq
import Derived.IntWalk
import Derived.StillTailTactics
namespace Go.Proofs.Ytpekccmhfkeadaa
open Go.RowKit Go.ChangeShapes Go.WideShapes Go.ChangeAt Go.Deep Go.Joins
namespace LwSd
set_option maxHeartbeats 8000000 in
theorem walk (A : Option Addr) (c : Nat) (l : List Int) (w : World) (hl : l.length ≤ c) (hm : c ≤ maxLen) (hr : Rd eByte w A l) (hb : ∀ x ∈ l, 0 ≤ x ∧ x ≤ 255) :
    Calls Try.prog 4 #[.slice A l.length c] w fun e w' => e = .returned (.bool true) ∧ Below w.heap.size w w' := by
  have HB := Lib.hid hb
  clear hb
  by_cases hsz : (1048576 : Int) < l.length
  · unfold maxLen at hm
    go_enter Try.func4, Try.ntmps4
    go_wp2
    go_ret
    exact ⟨rfl, (by repeat (first | with_reducible exact Below.refl _ _ | with_reducible assumption | with_reducible refine below_drewN ?_ _ | with_reducible refine Below.drew ?_ | with_reducible refine Below.alloc ?_ ?_ _ | with_reducible refine Below.setCell ?_ ?_ _ | (with_reducible refine Below.next ?_ (by assumption)) | omega | (focus (simp; omega)) | (focus (simp; done))))⟩
  · go_enter Try.func4, Try.ntmps4
    go_wp2_with fail
    refine (drawShareDisk_any A c l _ hl hm hr HB.out).mono ?_
    rintro e w1 ⟨A1, c1, g1, d, rfl, hg1, row1, hd65, hb1⟩
    have hz1 := hb1.size
    have HB1 := Lib.hid hb1
    have RD := Lib.hid row1.rd
    have hdc := Lib.hid row1.le
    have hdn := Lib.hid (Row.nilz row1)
    clear hb1 row1
    have hdl : d.length ≤ 1099511627776 := by omega
    have hss := shareB_size d
    have hsz2 : Hid (sizeShared (shareB d) ≤ 1099511627776) := Lib.hid (by omega)
    obtain ⟨s, hs⟩ : ∃ s, s = shareB d := ⟨_, rfl⟩
    have HS := Lib.hid hs
    go_wp2_with fail
    refine (implShare_c A1 c1 d _ (by repeat (first | with_reducible exact RD.out | with_reducible refine Rd.drew ?_ | with_reducible refine Rd.drewN ?_ _ | with_reducible refine Rd.alloc ?_ _ | (with_reducible refine Rd.below ?_ (by assumption)))) hdl).mono ?_
    rw [← hs]
    rw [← hs] at hsz2
    clear hs hss
    rintro e w2 ⟨y0, y1, rfl, O2, hb2⟩
    have hz2 := hb2.size
    have H2 := Lib.hid O2
    have HB2 := Lib.hid (Below.next (W := w) HB1.out hb2)
    have RD2 := Lib.hid (Rd.below RD.out hb2)
    clear O2 hb2
    obtain ⟨Ay, cy, Ay', cy', rfl, rfl⟩ := sharedRd_lens (SharedOwn.rd H2.out)
    have LX := Loc.newAt w2 [.slice Ay s.whr.length cy, .slice Ay' s.cps.length cy'] 30 (b := w2.heap.size) rfl
    go_wp2_with fail
    go_region_held3 (fun w' => w'.cell? ⟨w2.heap.size, 0, none⟩ = some (.slice Ay s.whr.length cy) ∧ w'.cell? ⟨w2.heap.size, 1, none⟩ = some (.slice Ay' s.cps.length cy')) (first | assumption | (refine ⟨?_, ?_⟩ <;> assumption) | (refine ⟨?_, ?_⟩ <;> (simp [go_sem, *]; done)) | go_keep) (first
      | (go_at_call 20; (with_reducible refine (specShare_c A1 c1 d _ (by repeat (first | with_reducible exact RD2.out | with_reducible refine Rd.drew ?_ | with_reducible refine Rd.drewN ?_ _ | with_reducible refine Rd.alloc ?_ _ | (with_reducible refine Rd.below ?_ (by assumption)))) hdl).mono ?_); rw [← HS.out]; rintro e w3 ⟨z0, z1, rfl, O3, hb3⟩; have LX3 := Loc.carryB LX (fun h => by ((repeat (first | with_reducible exact h | with_reducible refine Loc.drew ?_ | with_reducible refine Loc.drewN ?_ _ | with_reducible refine Loc.alloc ?_ _)); done)) hb3; obtain ⟨p0, p1, pf⟩ := LX3.two; have H3 := Lib.hid O3; have HB3 : Hid (Below w.heap.size w w3) := Lib.hid (Below.next (W := w) (by repeat (first | with_reducible exact HB2.out | with_reducible exact Below.refl _ _ | with_reducible refine below_drewN ?_ _ | with_reducible refine Below.drew ?_ | with_reducible refine Below.alloc ?_ ?_ _ | with_reducible refine Below.setCell ?_ ?_ _ | (with_reducible refine Below.next ?_ (by assumption)) | ((with_reducible refine Below.far' (by assumption) ?_ ?_ ?_); (focus (first | omega | (simp; omega) | (simp; done))); (focus (first | omega | (simp; omega) | (simp; done)))) | omega | (focus (simp; omega)) | (focus (simp; done)))) hb3); have HR3 := Lib.hid (SharedRd.below (SharedOwn.rd H2.out) (Below.next (by repeat (first | with_reducible exact Below.refl _ _ | with_reducible refine below_drewN ?_ _ | with_reducible refine Below.drew ?_ | with_reducible refine Below.alloc ?_ ?_ _ | with_reducible refine Below.setCell ?_ ?_ _ | omega | (focus (simp; omega)) | (focus (simp; done)))) hb3)); have RD3 := Lib.hid (Rd.below (Rd.drew (Rd.alloc RD2.out (.cells #[.slice Ay s.whr.length cy, .slice Ay' s.cps.length cy'] 30))) hb3); have hz3 := hb3.size; (try simp at hz3); have zX3 := LX3.lt; clear O3 hb3)
      | (go_at_call 19; (with_reducible refine (sameShared_c _ _ _ _ s _ HR3.out (SharedOwn.rd H3.out) hsz2.out).mono ?_); rintro e w4 ⟨rfl, hb4⟩; have LX4 := Loc.carryB LX3 (fun h => by ((repeat (first | with_reducible exact h | with_reducible refine Loc.drew ?_ | with_reducible refine Loc.drewN ?_ _ | with_reducible refine Loc.alloc ?_ _)); done)) hb4; obtain ⟨q0, q1, qf⟩ := LX4.two; have HB4 : Hid (Below w.heap.size w w4) := Lib.hid (Below.next (W := w) (by repeat (first | with_reducible exact HB3.out | with_reducible exact Below.refl _ _ | with_reducible refine below_drewN ?_ _ | with_reducible refine Below.drew ?_ | with_reducible refine Below.alloc ?_ ?_ _ | with_reducible refine Below.setCell ?_ ?_ _ | (with_reducible refine Below.next ?_ (by assumption)) | ((with_reducible refine Below.far' (by assumption) ?_ ?_ ?_); (focus (first | omega | (simp; omega) | (simp; done))); (focus (first | omega | (simp; omega) | (simp; done)))) | omega | (focus (simp; omega)) | (focus (simp; done)))) hb4); have HR4 := Lib.hid (SharedRd.below HR3.out hb4); have RD4 := Lib.hid (Rd.below RD3.out hb4); have hz4 := hb4.size; have zX4 := LX4.lt; clear hb4))
    by_cases h0 : s.whr.length = 0
    · have h0' : ((s.whr.length : Int) == 0) = true := by simp [h0]
      clear h0
      go_wp2_with (go_at_call 21; refine (alive_any _).mono ?_; rintro e w6 ⟨rfl, hb6⟩)
      go_ret
      exact ⟨rfl, Below.next (W := w) HB4.out hb6⟩
    · have h0' : ((s.whr.length : Int) == 0) = false := by rw [beq_eq_false_iff_ne]; omega
      have hdk : diskB d = true := by
        cases hdk : diskB d
        · have := HS.out
          rw [shareB_no hdk] at this
          rw [this] at h0
          exact absurd rfl h0
        · rfl
      obtain ⟨hv1, hv2⟩ := shareB_valid hdk
      rw [← HS.out] at hv1 hv2
      have hd64 := (diskB_true.1 hdk).1
      have hcn : s.cps.length = diffTo d d.length := by
        rw [HS.out, shareB_yes hdk]
        exact diffTo_cps d (fun x hx => allIn_mem (diskB_true.1 hdk).2 hx) d.length (Nat.le_refl _)
      have HV1 := Lib.hid hv1
      have HV2 : Hid (viewS s = d) := Lib.hid (by rw [viewS_yes hv1, hv2])
      have HCN := Lib.hid hcn
      clear hv1 hv2 hcn hdk h0
      obtain ⟨wa, hwa⟩ : ∃ x, x = w4 := ⟨_, rfl⟩
      subst hwa
      go_wp2
      go_loopw [5, 6] (fun df i wr => ∃ k : Nat, k ≤ d.length ∧ i = .int .i64 k ∧ ∃ dk : Nat, df = .int .i64 dk ∧ dk ≤ k ∧ Hid (dk = diffTo d k) ∧ ∃ q, wr = wa.drewN q) (fun _ i _ => d.length - (intOf i).toNat)
      case atStart => exact ⟨0, Nat.zero_le _, rfl, 0, rfl, Nat.le_refl _, Lib.hid rfl, 0, rfl⟩
      case round =>
        obtain ⟨k, hk, rfl, dk, rfl, hdk, HDK, q, rfl⟩ := hrel
        by_cases hlt : k < d.length
        · obtain ⟨b, off, rfl, hbl, hcc⟩ := RD4.out.ints (by omega)
          have hck := hcc k hlt
          have HCC := Lib.hid hcc
          clear hcc
          obtain ⟨x, hx⟩ : ∃ x, x = d[k]'hlt := ⟨_, rfl⟩
          have HX := Lib.hid hx
          rw [← hx] at hck
          clear hx
          go_wp2
          go_loopw [7, 8] (fun fi i wr => ∃ j : Nat, j ≤ k ∧ i = .int .i64 j ∧ ∃ bb : Bool, fi = .bool bb ∧ Hid (bb = !decide (x ∈ d.take j)) ∧ ∃ q, wr = wa.drewN q) (fun _ i _ => k - (intOf i).toNat)
          case atStart => exact ⟨0, Nat.zero_le _, rfl, true, rfl, Lib.hid (by simp), _, rfl⟩
          case round =>
            obtain ⟨j, hj, rfl, bb, rfl, HBB, q2, rfl⟩ := hrel
            by_cases hjk : j < k
            · have hjl : j < d.length := by omega
              have hcj := HCC.out j hjl
              have hts : d.take (j + 1) = d.take j ++ [d[j]'hjl] := List.take_succ_eq_append_getElem hjl
              have HTS := Lib.hid hts
              obtain ⟨y, hy⟩ : ∃ y, y = d[j]'hjl := ⟨_, rfl⟩
              rw [← hy] at hcj HTS
              clear hts hy
              cases bb
              · go_wp2
                go_quiet (fail)
                go_wp2
                go_roundw
                case rel => exact ⟨j + 1, by omega, by go_num, false, rfl, Lib.hid (by have h1 : x ∈ d.take j := (by simpa using HBB.out); rw [HTS.out]; simp [h1]), _, rfl⟩
                case measure => simp [intOf]; omega
              · cases hyx : (y != x)
                · go_wp2
                  go_quiet (fail)
                  go_wp2
                  have HYX := Lib.hid hyx
                  clear hyx
                  go_roundw
                  case rel => exact ⟨j + 1, by omega, by go_num, false, rfl, Lib.hid (by have h1 : y = x := (by simpa using HYX.out); rw [HTS.out]; simp [h1]), _, rfl⟩
                  case measure => simp [intOf]; omega
                · go_wp2
                  go_quiet (fail)
                  go_wp2
                  have HYX := Lib.hid hyx
                  clear hyx
                  go_roundw
                  case rel => exact ⟨j + 1, by omega, by go_num, true, rfl, Lib.hid (by have h1 : ¬ y = x := (by simpa using HYX.out); have h2 : ¬ x ∈ d.take j := (by simpa using HBB.out); rw [HTS.out]; simp [h2, show ¬ x = y from fun h => h1 h.symm]), _, rfl⟩
                  case measure => simp [intOf]; omega
            · have hje : j = k := by omega
              have HD1 : Hid (diffTo d (k + 1) = diffTo d k + if x ∈ d.take k then 0 else 1) := Lib.hid (by rw [HX.out]; simp [diffTo, hlt])
              have HB2 : Hid (bb = !decide (x ∈ d.take k)) := Lib.hid (by rw [HBB.out, hje])
              clear hje
              cases bb
              · go_wp2
                go_roundw
                case rel => exact ⟨k + 1, by omega, by go_num, dk, rfl, by omega, Lib.hid (by have h1 : x ∈ d.take k := (by simpa using HB2.out); have e := HD1.out; rw [if_pos h1] at e; have := HDK.out; omega), _, rfl⟩
                case measure => simp [intOf]; omega
              · go_wp2
                go_roundw
                case rel => exact ⟨k + 1, by omega, by go_num, dk + 1, by go_num, by omega, Lib.hid (by have h1 : ¬ x ∈ d.take k := (by simpa using HB2.out); have e := HD1.out; rw [if_neg h1] at e; have := HDK.out; omega), _, rfl⟩
                case measure => simp [intOf]; omega
        · have hke : k = d.length := by omega
          have HDE : Hid (s.cps.length = dk) := Lib.hid (by rw [HCN.out, HDK.out, hke])
          have hde1 : s.cps.length ≤ dk := by rw [HDE.out]; exact Nat.le_refl _
          have hde2 : dk ≤ s.cps.length := by rw [HDE.out]; exact Nat.le_refl _
          have heq : ((s.cps.length : Int) == (dk : Int)) = true := by simp; omega
          clear hke
          have HR4q : Hid (SharedRd (wa.drewN q) [.slice Ay s.whr.length cy, .slice Ay' s.cps.length cy'] s) := HR4
          have RD4q : Hid (Rd eInt (wa.drewN q) A1 d) := RD4
          have HB4q : Hid (Below w.heap.size w (wa.drewN q)) := Lib.hid (below_drewN HB4.out q)
          have LX4q : Loc (wa.drewN q) w2.heap.size [.slice Ay s.whr.length cy, .slice Ay' s.cps.length cy'] := LX4
          go_wp2_with (first
            | (go_at_call 15; (with_reducible refine (implShared_c _ _ s _ HR4q.out hsz2.out).mono ?_); rw [HV1.out]; rintro e w5 ⟨rfl, hb5⟩; have LX5 := Loc.below LX4q hb5; obtain ⟨r0, r1, rf⟩ := LX5.two; have zX5 := LX5.lt; have HR5 := Lib.hid (SharedRd.below HR4q.out hb5); have RD5 := Lib.hid (Rd.below RD4q.out hb5); have HB5 : Hid (Below w.heap.size w w5) := Lib.hid (Below.next (W := w) HB4q.out hb5); clear hb5)
            | (go_at_call 23; (with_reducible refine (implSView_c _ _ s _ HR5.out hsz2.out).mono ?_); rw [HV2.out]; rintro e w6 ⟨v6, rfl, O6, hb6⟩; have LX6 := Loc.carryB LX5 (fun h => by ((repeat (first | with_reducible exact h | with_reducible refine Loc.drew ?_ | with_reducible refine Loc.drewN ?_ _ | with_reducible refine Loc.alloc ?_ _)); done)) hb6; obtain ⟨t0, t1, tf⟩ := LX6.two; have zX6 := LX6.lt; have H6 := Lib.hid O6; obtain ⟨A6, c6, g6, rfl, -, -⟩ := id O6; have RD6 := Lib.hid (Rd.below RD5.out hb6); have HB6 : Hid (Below w.heap.size w w6) := Lib.hid (Below.next (W := w) HB5.out hb6); clear hb6 O6)
            | (go_at_call 22; (with_reducible refine (sameInts_v (.slice A6 d.length c6) (.slice A1 d.length c1) d d _ (SOwn.rd H6.out) (SRd.of RD6.out hdc.out (by simp only [maxLen]; omega) hdn.out) hdl hdl).mono ?_); rw [dec_reflS]; rintro e w7 ⟨rfl, q7, rfl⟩))
          go_ret
          exact ⟨rfl, below_drewN HB6.out _⟩
set_option maxRecDepth 100000 in
theorem lifted (os : Os) (started : os.Started) (H : Type) (enc : TypeId × Value → H) :
    ReturnsInHanded {} Try.checked os 4 .any (Rows.fnShareDiskSpec.pre6 enc Try.prog Try.f4 Rows.fnShareDiskRow.domain false) (Rows.fnShareDiskSpec.post enc Try.prog Try.f4 false true false false) := by
  refine returnsInHanded_of_change (C := Try.checked) own_knob started (by kernel_rfl) Try.func4
    (ChangeSpec.witness6 (enc := enc) (C := Try.checked) false ⟨#[], #[.slice none 0 0], []⟩ 8 (by kernel_rfl) (by kernel_rfl) (by kernel_rfl) (by kernel_rfl)) ?_
  intro W base args ds gs before hval0 hW hcnd _
  have hval : ∀ (j : Nat) t v, Try.f4.params[j]? = some t → args[j]? = some v → Value.okWide Try.prog W .any base t v := hval0
  have hW' := hW
  obtain ⟨p, q, hA0, hV, rfl, hfz, hnd⟩ := hW
  have hA : DataW.TrodAll enc Try.prog W 0 (fun _ => true) true Try.f4.params.toList args.toList ds p := hA0
  rw [Try.params4] at hA hval
  obtain ⟨v0, vs0, d0, ds0, p0, q0, hargs, rfl, rfl, h0, r0⟩ := trodAll_cons hA
  obtain ⟨rfl, rfl, rfl⟩ := trodAll_nil r0
  obtain rfl : args = #[v0] := by cases args; simp_all
  obtain ⟨rfl, rfl⟩ := trodVars_none hV
  have k0 := h0
  have lt0 : ∀ x ∈ p0, x.block < W.heap.size := by obtain ⟨m, hm⟩ := k0; exact DataW.trod_lt m _ _ _ hm
  obtain ⟨A0, c0, l0, rfl, hl0, hm0, rd0, by0⟩ := open_bytes Try.underlying34 Try.underlying5 (by kernel_rfl) (hval 0 34 v0 rfl rfl) h0
  clear hA0 hval0
  refine (walk A0 c0 l0 W hl0 hm0 rd0 by0).mono fun e W' ⟨he, bel⟩ => ?_
  subst he
  exact ⟨_, rfl, _, _, _, [], _, [], hW', trodAll_mk1 (shut_bool Try.underlying4 _), (trodAll_cons_mk (Below.trod laid_out (by kernel_rfl) (of_decide_eq_true (by kernel_rfl)) k0 bel lt0) trodAll_mk0), rfl, bel.frame _, fun h => by cases h⟩
theorem over : Rows.fnShareDiskRow.holds Try.pinned (OpenSpec.ofChange Rows.fnShareDiskSpec) :=
  OpenClaim.holds_of_wide 4 Try.f4 rfl rfl rfl rfl rfl rfl rfl ⟨rfl, rfl, rfl, rfl, rfl⟩ rfl rfl rfl rfl rfl (by kernel_rfl) Try.func4 (by kernel_rfl)
    (of_decide_eq_true (by kernel_rfl)) (by unfold Func.isWrapper; first | (rw [if_pos (by decide +kernel)]; kernel_rfl) | (rw [if_neg (by decide +kernel)]; exact ⟨rfl, rfl⟩))
    (fun os started H enc _ => lifted os started H enc)
theorem proved : Rows.FnShareDiskSaid := over
end LwSd
end Go.Proofs.Ytpekccmhfkeadaa
