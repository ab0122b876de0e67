/-
  Thin volumes: the program's and the reference's functions. Conditions: lengths at most 2^40.
-/
import Derived.Test.YtkejdgegkbfofaaBase
import Derived.Test.YtkejdgegkbfofaaNum
import Derived.Test.YtkejdgegkbfofaaInts
import Derived.Test.YtkejdgegkbfofaaApp
import Derived.Test.YtkejdgegkbfofaaIntsW
import Derived.Test.YtkejdgegkbfofaaLib
import Derived.Test.YtkejdgegkbfofaaSpares
import Derived.Test.YtkejdgegkbfofaaOwn
import Derived.Test.YtkejdgegkbfofaaThin
import Derived.Test.YtkejdgegkbfofaaThinM
namespace Go.Proofs.Ytkejdgegkbfofaa
open Go.RowKit
theorem thin_no1 {t : Th} (h : decide (t.whr.length ≤ 64) = false) : thinB t = false := by simp [thinB, h]
theorem thin_no2 {t : Th} (h : diskB t.pool = false) : thinB t = false := by simp [thinB, h]
theorem thin_no3 {t : Th} (h : allIn t.whr (-1) (t.pool.length - 1) = false) : thinB t = false := by simp [thinB, h]
theorem thin_no4 {t : Th} {k : Nat} (hk : k < t.whr.length) (h : thinOkAt t k = false) : thinB t = false := by simp [thinB, allK_no hk h]
theorem thin_yes {t : Th} (h1 : t.whr.length ≤ 64) (h2 : diskB t.pool = true) (h3 : allIn t.whr (-1) (t.pool.length - 1) = true) (h4 : allK t.whr.length (thinOkAt t) = true) : thinB t = true := by simp [thinB, h1, h2, h3, h4]
set_option maxHeartbeats 2000000 in
theorem implThin_c (x0 x1 : Value) (t : Th) (w : World) (h : ThinRd w [x0, x1] t) (hs : sizeThin t ≤ 1099511627776) :
    Calls Try.prog 18 #[.agg #[x0, x1]] w fun e w' => e = .returned (.bool (thinB t)) ∧ Below w.heap.size w w' := by
  obtain ⟨u, v, h1, ⟨A, c, rfl, ha, hc0, hm0, hn0⟩, ⟨A', c', rfl, hp, hc1, hm1, hn1⟩⟩ := h
  simp only [List.cons.injEq, and_true] at h1
  obtain ⟨rfl, rfl⟩ := h1
  unfold sizeThin at hs
  by_cases h1 : t.whr.length ≤ 64
  · have h1' : decide ((64 : Int) < t.whr.length) = false := by simp; omega
    cases h2 : diskB t.pool
    · have H2 := Lib.hid h2
      go_enter Try.func18, Try.ntmps18
      go_wp2_with (go_at_call 42; refine (diskValid_any A' c' t.pool _ (hp.alloc _) (by omega)).mono ?_; rw [H2.out]; rintro e w' ⟨rfl, rfl⟩)
      go_ret
      exact ⟨ret_bool (thin_no2 H2.out).symm, (by repeat (first | with_reducible exact Below.refl _ _ | with_reducible assumption | with_reducible refine below_drewN ?_ _ | with_reducible refine Below.drew ?_ | with_reducible refine Below.alloc ?_ ?_ _ | with_reducible refine Below.setCell ?_ ?_ _ | (with_reducible refine Below.next ?_ (by assumption)) | omega | (focus (simp; omega)) | (focus (simp; done))))⟩
    · have H2 := Lib.hid h2
      cases h3 : allIn t.whr (-1) (t.pool.length - 1)
      · have H3 := Lib.hid h3
        have hl1 : (t.pool.length : Int) ≤ 1099511627776 := by omega
        go_enter Try.func18, Try.ntmps18
        go_wp2_with (first
          | (go_at_call 42; refine (diskValid_any A' c' t.pool _ (hp.alloc _) (by omega)).mono ?_; rw [H2.out]; rintro e w' ⟨rfl, rfl⟩)
          | (go_at_call 43; refine (allWithin_any A c t.whr _ _ _ (ha.alloc _) (by omega)).mono ?_; rw [H3.out]; rintro e w' ⟨rfl, rfl⟩))
        go_ret
        exact ⟨ret_bool (thin_no3 H3.out).symm, (by repeat (first | with_reducible exact Below.refl _ _ | with_reducible assumption | with_reducible refine below_drewN ?_ _ | with_reducible refine Below.drew ?_ | with_reducible refine Below.alloc ?_ ?_ _ | with_reducible refine Below.setCell ?_ ?_ _ | (with_reducible refine Below.next ?_ (by assumption)) | omega | (focus (simp; omega)) | (focus (simp; done))))⟩
      · have H3 := Lib.hid h3
        have HA := Lib.hid (Rd.alloc ha (.cells #[.slice A t.whr.length c, .slice A' t.pool.length c'] 26))
        clear h2 h3
        have hl1 : (t.pool.length : Int) ≤ 1099511627776 := by omega
        go_enter Try.func18, Try.ntmps18
        go_wp2_with (first
          | (go_at_call 42; refine (diskValid_any A' c' t.pool _ (hp.alloc _) (by omega)).mono ?_; rw [H2.out]; rintro e w' ⟨rfl, rfl⟩)
          | (go_at_call 43; refine (allWithin_any A c t.whr _ _ _ HA.out (by omega)).mono ?_; rw [H3.out]; rintro e w' ⟨rfl, rfl⟩))
        go_loop [28] (fun i => ∃ k : Nat, k ≤ t.whr.length ∧ i = .int .i64 k ∧ allK k (thinOkAt t) = true) (fun i => t.whr.length - (intOf i).toNat)
        case atStart => exact ⟨0, Nat.zero_le _, rfl, rfl⟩
        case round =>
          obtain ⟨k, hk, rfl, ht⟩ := hrel
          have HT := Lib.hid ht
          clear ht
          by_cases hlt : k < t.whr.length
          · obtain ⟨b, off, rfl, hbl, hcc⟩ := ha.int hlt
            have hlk : (t.whr.take k).length = k := by simp; omega
            have HLK := Lib.hid hlk
            have HIN := Lib.hid (inB_true.2 (allIn_get H3.out hlt))
            have HB := Lib.hid (thinOkAt_get hlt)
            have HTK := Lib.hid (HA.out.take k)
            clear hlk
            by_cases hneg : (t.whr[k]'hlt) < 0
            · have hn' : decide (0 ≤ (t.whr[k]'hlt)) = false := by simpa using hneg
              have HN := Lib.hid hn'
              go_wp2
              go_round
              case rel => exact ⟨k + 1, by omega, by go_num, allK_succ HT.out (by rw [HB.out, HIN.out, HN.out]; rfl)⟩
              case measure => simp [intOf]; omega
            · have hn' : decide (0 ≤ (t.whr[k]'hlt)) = true := by simpa using hneg
              have HN := Lib.hid hn'
              cases hmem : decide ((t.whr[k]'hlt) ∈ t.whr.take k)
              · have HM := Lib.hid hmem
                clear hmem
                go_wp2_with (go_at_call 36; refine (contains_any _ _ _ (t.whr.take k) _ _ HLK.out HTK.out (by omega)).mono ?_; rw [HM.out]; rintro e w' ⟨rfl, rfl⟩)
                go_round
                case rel => exact ⟨k + 1, by omega, by go_num, allK_succ HT.out (by rw [HB.out, HIN.out, HN.out, HM.out]; rfl)⟩
                case measure => simp [intOf]; omega
              · have HM := Lib.hid hmem
                clear hmem
                go_wp2_with (go_at_call 36; refine (contains_any _ _ _ (t.whr.take k) _ _ HLK.out HTK.out (by omega)).mono ?_; rw [HM.out]; rintro e w' ⟨rfl, rfl⟩)
                go_ret
                exact ⟨ret_bool (thin_no4 hlt (by rw [HB.out, HIN.out, HN.out, HM.out]; rfl)).symm, (by repeat (first | with_reducible exact Below.refl _ _ | with_reducible assumption | with_reducible refine below_drewN ?_ _ | with_reducible refine Below.drew ?_ | with_reducible refine Below.alloc ?_ ?_ _ | with_reducible refine Below.setCell ?_ ?_ _ | (with_reducible refine Below.next ?_ (by assumption)) | omega | (focus (simp; omega)) | (focus (simp; done))))⟩
          · have hke : k = t.whr.length := by omega
            have HY := Lib.hid (thin_yes h1 H2.out H3.out (by rw [← hke]; exact HT.out))
            go_wp2
            go_ret
            exact ⟨ret_bool HY.out.symm, (by repeat (first | with_reducible exact Below.refl _ _ | with_reducible assumption | with_reducible refine below_drewN ?_ _ | with_reducible refine Below.drew ?_ | with_reducible refine Below.alloc ?_ ?_ _ | with_reducible refine Below.setCell ?_ ?_ _ | (with_reducible refine Below.next ?_ (by assumption)) | omega | (focus (simp; omega)) | (focus (simp; done))))⟩
  · have h1' : decide ((64 : Int) < t.whr.length) = true := by simp; omega
    go_enter Try.func18, Try.ntmps18
    go_wp2
    go_ret
    exact ⟨ret_bool (thin_no1 (by simpa using h1)).symm, (by repeat (first | with_reducible exact Below.refl _ _ | with_reducible assumption | with_reducible refine below_drewN ?_ _ | with_reducible refine Below.drew ?_ | with_reducible refine Below.alloc ?_ ?_ _ | with_reducible refine Below.setCell ?_ ?_ _ | (with_reducible refine Below.next ?_ (by assumption)) | omega | (focus (simp; omega)) | (focus (simp; done))))⟩
set_option maxHeartbeats 4000000 in
theorem specThin_c (x0 x1 : Value) (t : Th) (w : World) (h : ThinRd w [x0, x1] t) (hs : sizeThin t ≤ 1099511627776) :
    Calls Try.prog 28 #[.agg #[x0, x1]] w fun e w' => e = .returned (.bool (thinB t)) ∧ Below w.heap.size w w' := by
  obtain ⟨u, v, h1, ⟨A, c, rfl, ha, hc0, hm0, hn0⟩, ⟨A', c', rfl, hp, hc1, hm1, hn1⟩⟩ := h
  simp only [List.cons.injEq, and_true] at h1
  obtain ⟨rfl, rfl⟩ := h1
  unfold sizeThin at hs
  have hl1 : (t.pool.length : Int) ≤ 1099511627776 := by omega
  by_cases h1 : t.whr.length ≤ 64
  · have h1' : decide ((64 : Int) < t.whr.length) = false := by simp; omega
    cases h2 : diskB t.pool
    · have H2 := Lib.hid h2
      go_enter Try.func28, Try.ntmps28
      go_wp2_with (go_at_call 48; refine (specDisk_any A' c' t.pool _ (hp.alloc _) (by omega)).mono ?_; rw [H2.out]; rintro e w' ⟨rfl, rfl⟩)
      go_ret
      exact ⟨ret_bool (thin_no2 H2.out).symm, (by repeat (first | with_reducible exact Below.refl _ _ | with_reducible assumption | with_reducible refine below_drewN ?_ _ | with_reducible refine Below.drew ?_ | with_reducible refine Below.alloc ?_ ?_ _ | with_reducible refine Below.setCell ?_ ?_ _ | (with_reducible refine Below.next ?_ (by assumption)) | omega | (focus (simp; omega)) | (focus (simp; done))))⟩
    · have H2 := Lib.hid h2
      clear h2
      go_enter Try.func28, Try.ntmps28
      go_wp2_with (go_at_call 48; refine (specDisk_any A' c' t.pool _ (hp.alloc _) (by omega)).mono ?_; rw [H2.out]; rintro e w' ⟨rfl, rfl⟩)
      go_loopw [3] (fun i wr => ∃ k : Nat, k ≤ t.whr.length ∧ i = .int .i64 k ∧ allK k (thinOkAt t) = true ∧ allIn (t.whr.take k) (-1) (t.pool.length - 1) = true ∧ ∃ q, wr = (w.alloc (.cells #[.slice A t.whr.length c, .slice A' t.pool.length c'] 26)).drewN q) (fun i _ => t.whr.length - (intOf i).toNat)
      case atStart => exact ⟨0, Nat.zero_le _, rfl, rfl, rfl, 0, rfl⟩
      case round =>
        obtain ⟨k, hk, rfl, ht, hal, q, rfl⟩ := hrel
        have HT := Lib.hid ht
        have HAL := Lib.hid hal
        clear ht hal
        by_cases hlt : k < t.whr.length
        · obtain ⟨b, off, rfl, hbl, hcs⟩ := ha.ints (by omega)
          have hbl' : b ≠ w.heap.size := by omega
          have hck := hcs k hlt
          have HB := Lib.hid (thinOkAt_get hlt)
          cases hin : inB (t.whr[k]'hlt) (-1) (t.pool.length - 1)
          · have HI := Lib.hid hin
            go_wp2
            go_quiet ((go_at_call 29; (first | exact quiet_left (l1In_any _ _ _ _) | exact quiet_add_left (l1In_any _ _ _ _))))
            go_wp2
            go_ret
            exact ⟨ret_bool (thin_no3 (allIn_no hlt HI.out)).symm, (by repeat (first | with_reducible exact Below.refl _ _ | with_reducible assumption | with_reducible refine below_drewN ?_ _ | with_reducible refine Below.drew ?_ | with_reducible refine Below.alloc ?_ ?_ _ | with_reducible refine Below.setCell ?_ ?_ _ | (with_reducible refine Below.next ?_ (by assumption)) | omega | (focus (simp; omega)) | (focus (simp; done))))⟩
          · have HI := Lib.hid hin
            go_wp2
            go_quiet ((go_at_call 29; (first | exact quiet_left (l1In_any _ _ _ _) | exact quiet_add_left (l1In_any _ _ _ _))))
            go_wp2
            clear hin
            go_loopw [4] (fun i wr => ∃ j : Nat, j ≤ k ∧ i = .int .i64 j ∧ (0 ≤ (t.whr[k]'hlt) → newUpTo t.whr k j) ∧ ∃ q, wr = (w.alloc (.cells #[.slice (some ⟨b, off, none⟩) t.whr.length c, .slice A' t.pool.length c'] 26)).drewN q) (fun i _ => k - (intOf i).toNat)
            case atStart => exact ⟨0, Nat.zero_le _, rfl, fun _ _ _ _ h => absurd h (by omega), _, World.drewN_drewN ..⟩
            case round =>
              obtain ⟨j, hj, rfl, hn, q2, rfl⟩ := hrel
              have HN := Lib.hid hn
              clear hn
              by_cases hjk : j < k
              · have hjl : j < t.whr.length := by omega
                have hcj := hcs j hjl
                by_cases hneg : (t.whr[k]'hlt) < 0
                · have hn' : decide (0 ≤ (t.whr[k]'hlt)) = false := by simpa using hneg
                  go_wp2
                  go_quiet (fail)
                  go_wp2
                  exact ⟨⟨j + 1, by omega, by go_num, fun h => absurd h (by omega), _, rfl⟩, by simp [intOf]; omega⟩
                · have hn' : decide (0 ≤ (t.whr[k]'hlt)) = true := by simpa using hneg
                  cases hee : ((t.whr[j]'hjl) == (t.whr[k]'hlt))
                  · have HE := Lib.hid hee
                    go_wp2
                    go_quiet (fail)
                    go_wp2
                    go_roundw
                    case rel =>
                      refine ⟨j + 1, by omega, by go_num, ?_, _, rfl⟩
                      intro h0 i hi hk2 hij
                      by_cases hij2 : i = j
                      · subst hij2
                        simpa using HE.out
                      · exact HN.out h0 i hi hk2 (by omega)
                    case measure => simp [intOf]; omega
                  · have HE := Lib.hid hee
                    have HN' := Lib.hid hn'
                    go_wp2
                    go_quiet (fail)
                    go_wp2
                    go_ret
                    refine ⟨ret_bool ?_, (by repeat (first | with_reducible exact Below.refl _ _ | with_reducible assumption | with_reducible refine below_drewN ?_ _ | with_reducible refine Below.drew ?_ | with_reducible refine Below.alloc ?_ ?_ _ | with_reducible refine Below.setCell ?_ ?_ _ | (with_reducible refine Below.next ?_ (by assumption)) | omega | (focus (simp; omega)) | (focus (simp; done))))⟩
                    have h5 := mem_take hlt hjl hjk (by simpa using HE.out)
                    exact (thin_no4 hlt (by rw [HB.out, HN'.out, h5]; simp)).symm
              · have hjk' : j = k := by omega
                have HOK : Hid (thinOkAt t k = true) := by
                  show thinOkAt t k = true
                  rw [HB.out, HI.out]
                  by_cases h0 : 0 ≤ (t.whr[k]'hlt)
                  · rw [not_mem_take hlt (by have := HN.out h0; rw [hjk'] at this; exact this)]; simp
                  · simp [h0]
                clear hjk'
                go_wp2
                go_roundw
                case rel => exact ⟨k + 1, by omega, by go_num, allK_succ HT.out HOK.out, allIn_take HAL.out hlt HI.out, _, rfl⟩
                case measure => simp [intOf]; omega
        · have hke : k = t.whr.length := by omega
          have HY := Lib.hid (thin_yes h1 H2.out (by have := HAL.out; rw [hke, List.take_length] at this; exact this) (by rw [← hke]; exact HT.out))
          go_wp2
          go_ret
          exact ⟨ret_bool HY.out.symm, (by repeat (first | with_reducible exact Below.refl _ _ | with_reducible assumption | with_reducible refine below_drewN ?_ _ | with_reducible refine Below.drew ?_ | with_reducible refine Below.alloc ?_ ?_ _ | with_reducible refine Below.setCell ?_ ?_ _ | (with_reducible refine Below.next ?_ (by assumption)) | omega | (focus (simp; omega)) | (focus (simp; done))))⟩
  · have h1' : decide ((64 : Int) < t.whr.length) = true := by simp; omega
    go_enter Try.func28, Try.ntmps28
    go_wp2
    go_ret
    exact ⟨ret_bool (thin_no1 (by simpa using h1)).symm, (by repeat (first | with_reducible exact Below.refl _ _ | with_reducible assumption | with_reducible refine below_drewN ?_ _ | with_reducible refine Below.drew ?_ | with_reducible refine Below.alloc ?_ ?_ _ | with_reducible refine Below.setCell ?_ ?_ _ | (with_reducible refine Below.next ?_ (by assumption)) | omega | (focus (simp; omega)) | (focus (simp; done))))⟩
theorem thinRd_lens {x0 x1 : Value} {t : Th} {w : World} (h : ThinRd w [x0, x1] t) : ∃ A c A' c', x0 = .slice A t.whr.length c ∧ x1 = .slice A' t.pool.length c' := by
  obtain ⟨u, v, h1, ⟨A, c, rfl, _⟩, ⟨A', c', rfl, _⟩⟩ := h
  simp only [List.cons.injEq, and_true] at h1
  exact ⟨A, c, A', c', h1.1, h1.2⟩
set_option maxHeartbeats 2000000 in
theorem isThin_c (x0 x1 : Value) (t : Th) (a : Int) (w : World) (h : ThinRd w [x0, x1] t) (hs : sizeThin t ≤ 1099511627776) :
    Calls Try.prog 33 #[.agg #[x0, x1], .int .i64 a] w fun e w' => e = .returned (.bool (thinB t && inB a 0 (t.whr.length - 1))) ∧ Below w.heap.size w w' := by
  obtain ⟨A, c, A', c', rfl, rfl⟩ := thinRd_lens h
  have hs' : t.whr.length ≤ 1099511627776 := by unfold sizeThin at hs; omega
  have L0 := Loc.new w [.slice A t.whr.length c, .slice A' t.pool.length c'] 26
  have HR := Lib.hid h
  cases hv : thinB t
  · have HV := Lib.hid hv
    clear hv
    go_enter Try.func33, Try.ntmps33
    go_wp2_with fail
    refine (implThin_c _ _ t _ (ThinRd.below HR.out (by repeat (first | with_reducible exact Below.refl _ _ | with_reducible refine below_drewN ?_ _ | with_reducible refine Below.drew ?_ | with_reducible refine Below.alloc ?_ ?_ _ | with_reducible refine Below.setCell ?_ ?_ _ | omega | (focus (simp; omega)) | (focus (simp; done))))) hs).mono ?_
    rw [HV.out]
    rintro e w1 ⟨rfl, hb1⟩
    go_wp2
    go_ret
    exact ⟨rfl, (by repeat (first | with_reducible exact Below.refl _ _ | with_reducible assumption | with_reducible refine below_drewN ?_ _ | with_reducible refine Below.drew ?_ | with_reducible refine Below.alloc ?_ ?_ _ | with_reducible refine Below.setCell ?_ ?_ _ | (with_reducible refine Below.next ?_ (by assumption)) | omega | (focus (simp; omega)) | (focus (simp; done))))⟩
  · have HV := Lib.hid hv
    clear hv
    go_enter Try.func33, Try.ntmps33
    go_wp2_with fail
    refine (implThin_c _ _ t _ (ThinRd.below HR.out (by repeat (first | with_reducible exact Below.refl _ _ | with_reducible refine below_drewN ?_ _ | with_reducible refine Below.drew ?_ | with_reducible refine Below.alloc ?_ ?_ _ | with_reducible refine Below.setCell ?_ ?_ _ | omega | (focus (simp; omega)) | (focus (simp; done))))) hs).mono ?_
    rw [HV.out]
    rintro e w1 ⟨rfl, hb1⟩
    have M0 := Loc.carryB L0 (fun h => by ((repeat (first | with_reducible exact h | with_reducible refine Loc.drew ?_ | with_reducible refine Loc.drewN ?_ _ | with_reducible refine Loc.alloc ?_ _)); done)) hb1
    obtain ⟨k0, k1, kf⟩ := M0.two
    go_wp2_with (go_at_call 34; refine (within_any _ _ _ _).mono ?_; rintro e w' ⟨rfl, rfl⟩)
    go_ret
    exact ⟨rfl, (by repeat (first | with_reducible exact Below.refl _ _ | with_reducible assumption | with_reducible refine below_drewN ?_ _ | with_reducible refine Below.drew ?_ | with_reducible refine Below.alloc ?_ ?_ _ | with_reducible refine Below.setCell ?_ ?_ _ | (with_reducible refine Below.next ?_ (by assumption)) | omega | (focus (simp; omega)) | (focus (simp; done))))⟩
theorem cloneInts_w (v : Value) (l : List Int) (w : World) (h : SRd encIntS w v l) (hl : l.length ≤ 1099511627776) : Calls Try.prog 47 #[v] w (MadeS encIntS tyIntS l w) := by
  obtain ⟨A, c, rfl, hr, _, _, hn⟩ := h
  exact (cloneInts_any A c l w hr hl hn).mono MadeS.of_fresh
end Go.Proofs.Ytkejdgegkbfofaa
