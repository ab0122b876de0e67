/-
  Shared volumes: validity, the program's and the reference's. Conditions: lengths at most 2^40.
-/
import Derived.Test.YtpekccmhfkeadaaBase
import Derived.Test.YtpekccmhfkeadaaNum
import Derived.Test.YtpekccmhfkeadaaInts
import Derived.Test.YtpekccmhfkeadaaApp
import Derived.Test.YtpekccmhfkeadaaIntsW
import Derived.Test.YtpekccmhfkeadaaLib
import Derived.Test.YtpekccmhfkeadaaSpares
import Derived.Test.YtpekccmhfkeadaaOwn
import Derived.Test.YtpekccmhfkeadaaCopy
import Derived.Test.YtpekccmhfkeadaaShared
import Derived.Test.YtpekccmhfkeadaaSharedM
import Derived.StillTailTactics
namespace Go.Proofs.Ytpekccmhfkeadaa
open Go.RowKit
theorem users_row {w : World} {b n : Nat} (h : w.heap.size = b) (hn : n ≤ 1099511627776) : Row eInt (w.alloc (.cells (madeCells #[.int .i64 0] n) 3)) b 3 (some ⟨b, 0, none⟩) n (List.replicate n (0 : Int)) := by
  subst h
  have := made_row (E := eInt) (z := .int .i64 0) (e := 3) w 0 rfl n (by omega)
  simpa [show (Value.int .i64 0).cells = #[.int .i64 0] from rfl, show eInt.size = 1 from rfl] using this
set_option maxHeartbeats 8000000 in
theorem implShared_c (x0 x1 : Value) (s : Sh) (w : World) (h : SharedRd w [x0, x1] s) (hs : sizeShared s ≤ 1099511627776) :
    Calls Try.prog 15 #[.agg #[x0, x1]] w fun e w' => e = .returned (.bool (sharedB s)) ∧ Below w.heap.size w w' := by
  obtain ⟨u, v, h1, ⟨A, c, rfl, ha, hc0, hm0, hn0⟩, ⟨A', c', rfl, hp, hc1, hm1, hn1⟩⟩ := h
  simp only [List.cons.injEq, and_true] at h1
  obtain ⟨rfl, rfl⟩ := h1
  unfold sizeShared at hs
  have L0 := Loc.new w [.slice A s.whr.length c, .slice A' s.cps.length c'] 30
  have hl1 : (s.cps.length : Int) ≤ 1099511627776 := by omega
  by_cases h1 : s.whr.length ≤ 64
  · have h1' : decide ((64 : Int) < s.whr.length) = false := by simp; omega
    have H1 : Hid (decide (s.whr.length ≤ 64) = true) := Lib.hid (by simpa using h1)
    cases h2 : allIn s.whr 0 (s.cps.length - 1)
    · have H2 := Lib.hid h2
      go_enter Try.func15, Try.ntmps15
      go_wp2_with (go_at_call 41; refine (allWithin_any A c s.whr _ _ _ (ha.alloc _) (by omega)).mono ?_; rw [H2.out]; rintro e w' ⟨rfl, rfl⟩)
      go_ret
      exact ⟨ret_bool (shared_no2 H2.out).symm, (by repeat (first | with_reducible exact Below.refl _ _ | with_reducible assumption | with_reducible refine below_drewN ?_ _ | with_reducible refine Below.drew ?_ | with_reducible refine Below.alloc ?_ ?_ _ | with_reducible refine Below.setCell ?_ ?_ _ | (with_reducible refine Below.next ?_ (by assumption)) | omega | (focus (simp; omega)) | (focus (simp; done))))⟩
    · have H2 := Lib.hid h2
      clear h2
      have hmk := run_make_el el_int s.cps.length (by omega) (by omega)
      simp only [show (Value.int .i64 0).cells = #[.int .i64 0] from rfl, show eInt.size = 1 from rfl, Nat.mul_one] at hmk
      go_enter Try.func15, Try.ntmps15
      go_wp2_with (go_at_call 41; refine (allWithin_any A c s.whr _ _ _ (ha.alloc _) (by omega)).mono ?_; rw [H2.out]; rintro e w' ⟨rfl, rfl⟩)
      clear h1' hmk
      go_loopw [29] (fun i wr => ∃ k : Nat, k ≤ s.whr.length ∧ i = .int .i64 k ∧ Loc wr w.heap.size [.slice A s.whr.length c, .slice A' s.cps.length c'] ∧ Below w.heap.size w wr ∧ ∃ lk : List Int, Hid (lk = countsTo s.whr s.cps.length k) ∧ (lk.length ≤ s.cps.length ∧ s.cps.length ≤ lk.length) ∧ Row eInt wr (w.heap.size + 1) 3 (some ⟨w.heap.size + 1, 0, none⟩) s.cps.length lk) (fun i _ => s.whr.length - (intOf i).toNat)
      case atStart => exact ⟨0, Nat.zero_le _, rfl, Loc.alloc L0 _, (by repeat (first | with_reducible exact Below.refl _ _ | with_reducible assumption | with_reducible refine below_drewN ?_ _ | with_reducible refine Below.drew ?_ | with_reducible refine Below.alloc ?_ ?_ _ | with_reducible refine Below.setCell ?_ ?_ _ | (with_reducible refine Below.next ?_ (by assumption)) | omega | (focus (simp; omega)) | (focus (simp; done)))), _, Lib.hid (countsTo_zero _ _).symm, by simp, users_row (by simp) (by omega)⟩
      case round =>
        obtain ⟨k, hk, rfl, LW, hbw, lk, HLK, ⟨hlk1, hlk2⟩, hrow⟩ := hrel
        have hsz := hbw.size
        have hzl := LW.lt
        obtain ⟨k0, k1, kf⟩ := LW.two
        by_cases hlt : k < s.whr.length
        · have hra := Rd.below ha hbw
          obtain ⟨b, off, rfl, hbl, hcc⟩ := hra.int hlt
          have hb2 : b < w.heap.size := ha.lt (by omega) rfl
          obtain ⟨v0, v1⟩ := allIn_get H2.out hlt
          have hsu := @countsTo_succ s.whr s.cps.length k
          have hul := usersTo_le s.whr k
          obtain ⟨x, hx⟩ : ∃ x, x = s.whr[k]'hlt := ⟨_, rfl⟩
          have HX := Lib.hid hx
          rw [← hx] at hcc v0 v1
          clear hx
          obtain ⟨j, rfl⟩ := Int.eq_ofNat_of_zero_le v0
          have hjl : j < s.cps.length := by omega
          have hjk : j < lk.length := by omega
          have HSU := Lib.hid (hsu hlt HX.out.symm hjl)
          have hlkj : Hid (lk[j]'hjk = (usersTo s.whr k j : Nat)) := Lib.hid (by simp only [HLK.out, countsTo_get])
          have hulj := hul j
          obtain ⟨_, hg, hfz, hc2⟩ := hrow.int (by omega)
          have hc3 := hc2 j hjk
          rw [hlkj.out] at hc3
          have HSET := Lib.hid (hrow.setInt (k := j) hjk ((usersTo s.whr k j : Nat) + 1))
          obtain ⟨u, hu⟩ : ∃ u, u = usersTo s.whr k j := ⟨_, rfl⟩
          rw [← hu] at hc3 hulj HSET HSU
          clear hsu hul hc2 hu hrow
          go_wp2
          go_roundw
          case rel => exact ⟨k + 1, by omega, by go_num, (by repeat (first | with_reducible exact LW | with_reducible refine Loc.drew ?_ | with_reducible refine Loc.drewN ?_ _ | with_reducible refine Loc.alloc ?_ _ | (with_reducible refine Loc.below ?_ (by assumption)) | ((with_reducible refine Loc.other' ?_ ?_ _); (focus (first | omega | (simp; omega) | (simp; done)))) | ((with_reducible refine Loc.far' (by assumption) ?_ ?_); (focus (first | omega | (simp; omega) | (simp; done)))))), (by repeat (first | with_reducible exact hbw | with_reducible exact Below.refl _ _ | with_reducible refine below_drewN ?_ _ | with_reducible refine Below.drew ?_ | with_reducible refine Below.alloc ?_ ?_ _ | with_reducible refine Below.setCell ?_ ?_ _ | (with_reducible refine Below.next ?_ (by assumption)) | ((with_reducible refine Below.far' (by assumption) ?_ ?_ ?_); (focus (first | omega | (simp; omega) | (simp; done))); (focus (first | omega | (simp; omega) | (simp; done)))) | omega | (focus (simp; omega)) | (focus (simp; done)))), _, Lib.hid (by rw [HSU.out, HLK.out]), ⟨by simp; omega, by simp; omega⟩, HSET.out⟩
          case measure => simp [intOf]; omega
        · have hcnt : Hid (∀ (i : Nat) (h : i < lk.length), lk[i] = (s.whr.count (i : Int) : Nat)) := Lib.hid fun i h => by simp only [HLK.out, countsTo_get]; rw [usersTo_all (by omega)]
          clear HLK
          have HROW := Lib.hid hrow
          obtain ⟨wa, hwa⟩ : ∃ x, x = wr := ⟨_, rfl⟩
          subst hwa
          go_wp2
          clear hk hlt hrow
          go_loopw [43] (fun i wr => ∃ k : Nat, k ≤ s.cps.length ∧ i = .int .i64 k ∧ allK k (shOkAt s) = true ∧ Below wa.heap.size wa wr) (fun i _ => s.cps.length - (intOf i).toNat)
          case atStart => exact ⟨0, Nat.zero_le _, rfl, rfl, Below.refl _ _⟩
          case round =>
            obtain ⟨k, hk, rfl, ht, hbv⟩ := hrel
            have HT := Lib.hid ht
            have zz := hbv.size
            have LV := Loc.below LW hbv
            have hzv := LV.lt
            obtain ⟨q0, q1, qf⟩ := LV.two
            have WV : Hid (Below w.heap.size w wr) := Lib.hid (Below.next (W := w) hbw hbv)
            clear ht
            by_cases hlt : k < s.cps.length
            · have hpr := Rd.below hp WV.out
              obtain ⟨b, off, rfl, hbl, hcc, hcc2⟩ := hpr.rCopyS hlt
              have hkl : k < lk.length := by omega
              have hrv := Row.below HROW.out hbv
              obtain ⟨_, hg, hfz, hc2⟩ := hrv.int (by omega)
              have hc3 := hc2 k hkl
              rw [hcnt.out k hkl] at hc3
              have hcl := List.count_le_length (a := (k : Int)) (l := s.whr)
              have HCN0 : ∀ n, n = s.whr.count (k : Int) → Hid (n = s.whr.count (k : Int)) := fun _ h => Lib.hid h
              obtain ⟨cnt, hcnte⟩ : ∃ n, n = s.whr.count (k : Int) := ⟨_, rfl⟩
              have HCN := HCN0 cnt hcnte
              clear HCN0
              obtain ⟨p, hp0⟩ : ∃ p, p = s.cps[k]'hlt := ⟨_, rfl⟩
              have HB := Lib.hid (shOkAt_get hlt hp0)
              rw [← hp0] at hcc hcc2
              rw [← hcnte] at hc3 hcl HB
              clear hp0 hc2 hcnte
              obtain ⟨vl, us⟩ := p
              simp only at hcc hcc2 HB
              have LP := Loc.newAt wr [.int .i64 vl, .int .i64 us] 47 (b := wr.heap.size) rfl
              cases hi1 : inB vl 0 255
              · have HI := Lib.hid hi1
                go_wp2
                go_quiet ((go_at_call 42; (first | exact quiet_left (within_any _ _ _ _) | exact quiet_add_left (within_any _ _ _ _))))
                go_wp2
                go_ret
                exact ⟨ret_bool (shared_no3 hlt (by rw [HB.out, HI.out]; rfl)).symm, (by repeat (first | with_reducible exact WV.out | with_reducible exact Below.refl _ _ | with_reducible refine below_drewN ?_ _ | with_reducible refine Below.drew ?_ | with_reducible refine Below.alloc ?_ ?_ _ | with_reducible refine Below.setCell ?_ ?_ _ | (with_reducible refine Below.next ?_ (by assumption)) | ((with_reducible refine Below.far' (by assumption) ?_ ?_ ?_); (focus (first | omega | (simp; omega) | (simp; done))); (focus (first | omega | (simp; omega) | (simp; done)))) | omega | (focus (simp; omega)) | (focus (simp; done))))⟩
              · have HI := Lib.hid hi1
                cases hi2 : (us != (cnt : Int))
                · have HI2 : Hid ((us == (cnt : Int)) = true) := Lib.hid (by simpa using hi2)
                  by_cases hi3 : us < 1
                  · have hi3' : decide (us < 1) = true := by simpa using hi3
                    have HI3 : Hid (decide (1 ≤ us) = false) := Lib.hid (by simpa using hi3)
                    go_wp2
                    go_quiet ((go_at_call 42; (first | exact quiet_left (within_any _ _ _ _) | exact quiet_add_left (within_any _ _ _ _))))
                    go_wp2
                    go_ret
                    exact ⟨ret_bool (shared_no3 hlt (by rw [HB.out, HI.out, HI2.out, HI3.out]; rfl)).symm, (by repeat (first | with_reducible exact WV.out | with_reducible exact Below.refl _ _ | with_reducible refine below_drewN ?_ _ | with_reducible refine Below.drew ?_ | with_reducible refine Below.alloc ?_ ?_ _ | with_reducible refine Below.setCell ?_ ?_ _ | (with_reducible refine Below.next ?_ (by assumption)) | ((with_reducible refine Below.far' (by assumption) ?_ ?_ ?_); (focus (first | omega | (simp; omega) | (simp; done))); (focus (first | omega | (simp; omega) | (simp; done)))) | omega | (focus (simp; omega)) | (focus (simp; done))))⟩
                  · have hi3' : decide (us < 1) = false := by simpa using hi3
                    have HI3 : Hid (decide (1 ≤ us) = true) := Lib.hid (by simp; omega)
                    have hlk' : (s.cps.take k).length = k := by simp; omega
                    have HLK := Lib.hid hlk'
                    clear hlk'
                    have hk0 : (0 : Int) ≤ (k : Int) := by omega
                    have hk1 : (k : Int) ≤ (c' : Int) := by omega
                    obtain ⟨ix, hix⟩ : ∃ ix, ix = idx ((s.cps.take k).map Cp.val) vl := ⟨_, rfl⟩
                    have HIX := Lib.hid hix
                    clear hix
                    cases hmem : decide (0 ≤ ix)
                    · have HMM : Hid (decide (vl ∈ (s.cps.take k).map Cp.val) = false) := Lib.hid (by have := @cps_mem ((s.cps.take k).map Cp.val) vl; rw [← HIX.out] at this; simp only [decide_eq_false_iff_not] at hmem ⊢; exact fun h => hmem (this.2 h))
                      go_wp2
                      go_region_held3 (fun w' => w'.cell? ⟨wr.heap.size, 0, none⟩ = some (.int .i64 vl) ∧ w'.cell? ⟨wr.heap.size, 1, none⟩ = some (.int .i64 us) ∧ w'.cell? ⟨w.heap.size, 1, none⟩ = some (.slice (some ⟨b, off, none⟩) s.cps.length c') ∧ w'.cell? ⟨w.heap.size + 1, k, none⟩ = some (.int .i64 (cnt : Int))) (first | (refine ⟨?_, ?_, ?_, ?_⟩ <;> assumption) | (refine ⟨?_, ?_, ?_, ?_⟩ <;> (simp [go_sem, *]; done)) | go_keep)
                        (first
                          | (go_at_call 42; (with_reducible refine (within_any _ _ _ _).mono ?_); rintro e w' ⟨rfl, rfl⟩)
                          | (go_at_call 43; (with_reducible refine (copyOf_any _ _ _ (s.cps.take k) vl _ HLK.out ((Rd.below hp (by repeat (first | with_reducible exact WV.out | with_reducible exact Below.refl _ _ | with_reducible refine below_drewN ?_ _ | with_reducible refine Below.drew ?_ | with_reducible refine Below.alloc ?_ ?_ _ | with_reducible refine Below.setCell ?_ ?_ _ | (with_reducible refine Below.next ?_ (by assumption)) | ((with_reducible refine Below.far' (by assumption) ?_ ?_ ?_); (focus (first | omega | (simp; omega) | (simp; done))); (focus (first | omega | (simp; omega) | (simp; done)))) | omega | (focus (simp; omega)) | (focus (simp; done))))).take k) (by omega)).mono ?_); rw [← HIX.out]; rintro e w3 ⟨rfl, hb3⟩; have P1 := Loc.carryB LP (fun h => by ((repeat (first | with_reducible exact h | with_reducible refine Loc.drew ?_ | with_reducible refine Loc.drewN ?_ _ | with_reducible refine Loc.alloc ?_ _)); done)) hb3; have Q1 := Loc.carryB LV (fun h => by ((repeat (first | with_reducible exact h | with_reducible refine Loc.drew ?_ | with_reducible refine Loc.drewN ?_ _ | with_reducible refine Loc.alloc ?_ _)); done)) hb3; obtain ⟨p0, p1, pf⟩ := P1.two; obtain ⟨r0, r1, rf⟩ := Q1.two; have hc4 := (Row.below hrv (Below.next (by repeat (first | with_reducible exact Below.refl _ _ | with_reducible refine below_drewN ?_ _ | with_reducible refine Below.drew ?_ | with_reducible refine Below.alloc ?_ ?_ _ | with_reducible refine Below.setCell ?_ ?_ _ | omega | (focus (simp; omega)) | (focus (simp; done)))) hb3)).icell hkl (hcnt.out k hkl); rw [← HCN.out] at hc4; have W3 : Below wa.heap.size wa w3 := Below.next (W := wa) (by repeat (first | with_reducible exact hbv | with_reducible exact Below.refl _ _ | with_reducible refine below_drewN ?_ _ | with_reducible refine Below.drew ?_ | with_reducible refine Below.alloc ?_ ?_ _ | with_reducible refine Below.setCell ?_ ?_ _ | (with_reducible refine Below.next ?_ (by assumption)) | ((with_reducible refine Below.far' (by assumption) ?_ ?_ ?_); (focus (first | omega | (simp; omega) | (simp; done))); (focus (first | omega | (simp; omega) | (simp; done)))) | omega | (focus (simp; omega)) | (focus (simp; done)))) hb3))
                      go_wp2
                      go_roundw
                      case rel => exact ⟨k + 1, by omega, by go_num, allK_succ HT.out (by rw [HB.out, HI.out, HI2.out, HI3.out, HMM.out]; rfl), W3⟩
                      case measure => simp [intOf]; omega
                    · have HMM : Hid (decide (vl ∈ (s.cps.take k).map Cp.val) = true) := Lib.hid (by have := @cps_mem ((s.cps.take k).map Cp.val) vl; rw [← HIX.out] at this; simp only [decide_eq_true_eq] at hmem ⊢; exact this.1 hmem)
                      go_wp2
                      go_region_held3 (fun w' => w'.cell? ⟨wr.heap.size, 0, none⟩ = some (.int .i64 vl) ∧ w'.cell? ⟨wr.heap.size, 1, none⟩ = some (.int .i64 us) ∧ w'.cell? ⟨w.heap.size, 1, none⟩ = some (.slice (some ⟨b, off, none⟩) s.cps.length c') ∧ w'.cell? ⟨w.heap.size + 1, k, none⟩ = some (.int .i64 (cnt : Int))) (first | (refine ⟨?_, ?_, ?_, ?_⟩ <;> assumption) | (refine ⟨?_, ?_, ?_, ?_⟩ <;> (simp [go_sem, *]; done)) | go_keep)
                        (first
                          | (go_at_call 42; (with_reducible refine (within_any _ _ _ _).mono ?_); rintro e w' ⟨rfl, rfl⟩)
                          | (go_at_call 43; (with_reducible refine (copyOf_any _ _ _ (s.cps.take k) vl _ HLK.out ((Rd.below hp (by repeat (first | with_reducible exact WV.out | with_reducible exact Below.refl _ _ | with_reducible refine below_drewN ?_ _ | with_reducible refine Below.drew ?_ | with_reducible refine Below.alloc ?_ ?_ _ | with_reducible refine Below.setCell ?_ ?_ _ | (with_reducible refine Below.next ?_ (by assumption)) | ((with_reducible refine Below.far' (by assumption) ?_ ?_ ?_); (focus (first | omega | (simp; omega) | (simp; done))); (focus (first | omega | (simp; omega) | (simp; done)))) | omega | (focus (simp; omega)) | (focus (simp; done))))).take k) (by omega)).mono ?_); rw [← HIX.out]; rintro e w3 ⟨rfl, hb3⟩; have P1 := Loc.carryB LP (fun h => by ((repeat (first | with_reducible exact h | with_reducible refine Loc.drew ?_ | with_reducible refine Loc.drewN ?_ _ | with_reducible refine Loc.alloc ?_ _)); done)) hb3; have Q1 := Loc.carryB LV (fun h => by ((repeat (first | with_reducible exact h | with_reducible refine Loc.drew ?_ | with_reducible refine Loc.drewN ?_ _ | with_reducible refine Loc.alloc ?_ _)); done)) hb3; obtain ⟨p0, p1, pf⟩ := P1.two; obtain ⟨r0, r1, rf⟩ := Q1.two; have hc4 := (Row.below hrv (Below.next (by repeat (first | with_reducible exact Below.refl _ _ | with_reducible refine below_drewN ?_ _ | with_reducible refine Below.drew ?_ | with_reducible refine Below.alloc ?_ ?_ _ | with_reducible refine Below.setCell ?_ ?_ _ | omega | (focus (simp; omega)) | (focus (simp; done)))) hb3)).icell hkl (hcnt.out k hkl); rw [← HCN.out] at hc4; have W3 : Below wa.heap.size wa w3 := Below.next (W := wa) (by repeat (first | with_reducible exact hbv | with_reducible exact Below.refl _ _ | with_reducible refine below_drewN ?_ _ | with_reducible refine Below.drew ?_ | with_reducible refine Below.alloc ?_ ?_ _ | with_reducible refine Below.setCell ?_ ?_ _ | (with_reducible refine Below.next ?_ (by assumption)) | ((with_reducible refine Below.far' (by assumption) ?_ ?_ ?_); (focus (first | omega | (simp; omega) | (simp; done))); (focus (first | omega | (simp; omega) | (simp; done)))) | omega | (focus (simp; omega)) | (focus (simp; done)))) hb3))
                      go_wp2
                      go_ret
                      exact ⟨ret_bool (shared_no3 hlt (by rw [HB.out, HI.out, HI2.out, HI3.out, HMM.out]; rfl)).symm, Below.next (W := w) hbw W3⟩
                · have HI2 : Hid ((us == (cnt : Int)) = false) := Lib.hid (by simpa using hi2)
                  go_wp2
                  go_quiet ((go_at_call 42; (first | exact quiet_left (within_any _ _ _ _) | exact quiet_add_left (within_any _ _ _ _))))
                  go_wp2
                  go_ret
                  exact ⟨ret_bool (shared_no3 hlt (by rw [HB.out, HI.out, HI2.out]; rfl)).symm, (by repeat (first | with_reducible exact WV.out | with_reducible exact Below.refl _ _ | with_reducible refine below_drewN ?_ _ | with_reducible refine Below.drew ?_ | with_reducible refine Below.alloc ?_ ?_ _ | with_reducible refine Below.setCell ?_ ?_ _ | (with_reducible refine Below.next ?_ (by assumption)) | ((with_reducible refine Below.far' (by assumption) ?_ ?_ ?_); (focus (first | omega | (simp; omega) | (simp; done))); (focus (first | omega | (simp; omega) | (simp; done)))) | omega | (focus (simp; omega)) | (focus (simp; done))))⟩
            · have hke : k = s.cps.length := by omega
              have HY := Lib.hid (shared_yes H1.out H2.out (by rw [← hke]; exact HT.out))
              go_wp2
              go_ret
              exact ⟨ret_bool HY.out.symm, WV.out⟩
  · have h1' : decide ((64 : Int) < s.whr.length) = true := by simp; omega
    go_enter Try.func15, Try.ntmps15
    go_wp2
    go_ret
    exact ⟨ret_bool (shared_no1 (by simpa using h1)).symm, (by repeat (first | with_reducible exact Below.refl _ _ | with_reducible assumption | with_reducible refine below_drewN ?_ _ | with_reducible refine Below.drew ?_ | with_reducible refine Below.alloc ?_ ?_ _ | with_reducible refine Below.setCell ?_ ?_ _ | (with_reducible refine Below.next ?_ (by assumption)) | omega | (focus (simp; omega)) | (focus (simp; done))))⟩
theorem sh_ok_new {s : Sh} {k : Nat} {v u : Int} {n : Nat} (hB : Hid (shOkAt s k = (inB v 0 255 && (u == (n : Int)) && decide (1 ≤ u) && !decide (v ∈ (s.cps.take k).map Cp.val))))
    (h1 : inB v 0 255 = true) (h2 : (u == (n : Int)) = true) (h3 : decide (1 ≤ u) = true) (hk : k ≤ s.cps.length) (hn : ∀ j (hj : j < s.cps.length), j < k → s.cps[j].val ≠ v) : shOkAt s k = true := by
  rw [hB.out, h1, h2, h3]
  have : v ∉ (s.cps.take k).map Cp.val := by
    intro hm
    obtain ⟨p, hp, hpo⟩ := List.mem_map.1 hm
    obtain ⟨j, hj, rfl⟩ := List.getElem_of_mem hp
    have hjk : j < k := by simp at hj; omega
    exact hn j (by omega) hjk (by simpa using hpo)
  rw [decide_eq_false this]
  rfl
theorem sh_no_old {s : Sh} {k j : Nat} {v u : Int} {n : Nat} (hB : Hid (shOkAt s k = (inB v 0 255 && (u == (n : Int)) && decide (1 ≤ u) && !decide (v ∈ (s.cps.take k).map Cp.val))))
    (hj : j < s.cps.length) (hjk : j < k) (he : s.cps[j].val = v) : shOkAt s k = false := by
  rw [hB.out]
  have : v ∈ (s.cps.take k).map Cp.val := List.mem_map.2 ⟨s.cps[j], by rw [List.mem_take_iff_getElem]; exact ⟨j, by omega, rfl⟩, he⟩
  rw [decide_eq_true this]
  simp
set_option maxHeartbeats 8000000 in
theorem specShared_c (x0 x1 : Value) (s : Sh) (w : World) (h : SharedRd w [x0, x1] s) (hs : sizeShared s ≤ 1099511627776) :
    Calls Try.prog 13 #[.agg #[x0, x1]] w fun e w' => e = .returned (.bool (sharedB s)) ∧ Below w.heap.size w w' := by
  obtain ⟨u, v, h1, ⟨A, c, rfl, ha, hc0, hm0, hn0⟩, ⟨A', c', rfl, hp, hc1, hm1, hn1⟩⟩ := h
  simp only [List.cons.injEq, and_true] at h1
  obtain ⟨rfl, rfl⟩ := h1
  unfold sizeShared at hs
  have L0 := Loc.new w [.slice A s.whr.length c, .slice A' s.cps.length c'] 30
  have hl1 : (s.cps.length : Int) ≤ 1099511627776 := by omega
  by_cases h1 : s.whr.length ≤ 64
  · have h1' : decide ((64 : Int) < s.whr.length) = false := by simp; omega
    have H1 : Hid (decide (s.whr.length ≤ 64) = true) := Lib.hid (by simpa using h1)
    have hmk := run_make_el el_int s.cps.length (by omega) (by omega)
    simp only [show (Value.int .i64 0).cells = #[.int .i64 0] from rfl, show eInt.size = 1 from rfl, Nat.mul_one] at hmk
    go_enter Try.func13, Try.ntmps13
    go_wp2
    clear h1' hmk
    go_loopw [4] (fun i wr => ∃ k : Nat, k ≤ s.whr.length ∧ i = .int .i64 k ∧ Loc wr w.heap.size [.slice A s.whr.length c, .slice A' s.cps.length c'] ∧ Below w.heap.size w wr ∧ allIn (s.whr.take k) 0 (s.cps.length - 1) = true ∧ ∃ lk : List Int, Hid (lk = countsTo s.whr s.cps.length k) ∧ (lk.length ≤ s.cps.length ∧ s.cps.length ≤ lk.length) ∧ Row eInt wr (w.heap.size + 1) 3 (some ⟨w.heap.size + 1, 0, none⟩) s.cps.length lk) (fun i _ => s.whr.length - (intOf i).toNat)
    case atStart => exact ⟨0, Nat.zero_le _, rfl, Loc.alloc L0 _, (by repeat (first | with_reducible exact Below.refl _ _ | with_reducible assumption | with_reducible refine below_drewN ?_ _ | with_reducible refine Below.drew ?_ | with_reducible refine Below.alloc ?_ ?_ _ | with_reducible refine Below.setCell ?_ ?_ _ | (with_reducible refine Below.next ?_ (by assumption)) | omega | (focus (simp; omega)) | (focus (simp; done)))), rfl, _, Lib.hid (countsTo_zero _ _).symm, by simp, users_row (by simp) (by omega)⟩
    case round =>
      obtain ⟨k, hk, rfl, LW, hbw, hal, lk, HLK, ⟨hlk1, hlk2⟩, hrow⟩ := hrel
      have HAL := Lib.hid hal
      have hsz := hbw.size
      have hzl := LW.lt
      obtain ⟨k0, k1, kf⟩ := LW.two
      clear hal
      by_cases hlt : k < s.whr.length
      · have hra := Rd.below ha hbw
        obtain ⟨b, off, rfl, hbl, hcc⟩ := hra.int hlt
        have hb2 : b < w.heap.size := ha.lt (by omega) rfl
        have hsu := @countsTo_succ s.whr s.cps.length k
        have hul := usersTo_le s.whr k
        have halt := @allIn_take s.whr 0 (s.cps.length - 1) k HAL.out hlt
        have haln := @allIn_no s.whr 0 (s.cps.length - 1) k hlt
        obtain ⟨x, hx⟩ : ∃ x, x = s.whr[k]'hlt := ⟨_, rfl⟩
        have HX := Lib.hid hx
        rw [← hx] at hcc halt haln
        clear hx
        cases hin : inB x 0 (s.cps.length - 1)
        · have HI := Lib.hid (haln hin)
          clear hsu hul halt haln
          go_wp2
          go_quiet ((go_at_call 39; (first | exact quiet_left (l1In_any _ _ _ _) | exact quiet_add_left (l1In_any _ _ _ _))))
          go_wp2
          go_ret
          exact ⟨ret_bool (shared_no2 HI.out).symm, (by repeat (first | with_reducible exact hbw | with_reducible exact Below.refl _ _ | with_reducible refine below_drewN ?_ _ | with_reducible refine Below.drew ?_ | with_reducible refine Below.alloc ?_ ?_ _ | with_reducible refine Below.setCell ?_ ?_ _ | (with_reducible refine Below.next ?_ (by assumption)) | ((with_reducible refine Below.far' (by assumption) ?_ ?_ ?_); (focus (first | omega | (simp; omega) | (simp; done))); (focus (first | omega | (simp; omega) | (simp; done)))) | omega | (focus (simp; omega)) | (focus (simp; done))))⟩
        · obtain ⟨v0, v1⟩ := inB_true.1 hin
          have HA2 := Lib.hid (halt hin)
          obtain ⟨j, rfl⟩ := Int.eq_ofNat_of_zero_le v0
          have hjl : j < s.cps.length := by omega
          have hjk : j < lk.length := by omega
          have HSU := Lib.hid (hsu hlt HX.out.symm hjl)
          have hlkj : Hid (lk[j]'hjk = (usersTo s.whr k j : Nat)) := Lib.hid (by simp only [HLK.out, countsTo_get])
          have hulj := hul j
          obtain ⟨_, hg, hfz, hc2⟩ := hrow.int (by omega)
          have hc3 := hc2 j hjk
          rw [hlkj.out] at hc3
          have HSET := Lib.hid (hrow.setInt (k := j) hjk ((usersTo s.whr k j : Nat) + 1))
          obtain ⟨u, hu⟩ : ∃ u, u = usersTo s.whr k j := ⟨_, rfl⟩
          rw [← hu] at hc3 hulj HSET HSU
          clear hsu hul hc2 hu hrow halt haln
          go_wp2
          go_quiet ((go_at_call 39; (first | exact quiet_left (l1In_any _ _ _ _) | exact quiet_add_left (l1In_any _ _ _ _))))
          go_wp2
          clear hin
          obtain ⟨wy, hwy⟩ : ∃ wy, wy = wr.drewN nq := ⟨_, rfl⟩
          rw [← hwy]
          have f0 : wy.cell? ⟨w.heap.size, 0, none⟩ = some (.slice (some ⟨b, off, none⟩) s.whr.length c) := by rw [hwy]; exact k0
          have f1 : wy.cell? ⟨b, off + k, none⟩ = some (.int .i64 (j : Int)) := by rw [hwy]; exact hcc
          have f2 : wy.cell? ⟨w.heap.size + 1, j, none⟩ = some (.int .i64 (u : Int)) := by rw [hwy]; exact hc3
          have f3 : wy.frozen? ⟨w.heap.size + 1, j, none⟩ = false := by rw [hwy]; exact hfz j
          have HWY := Lib.hid hwy
          clear hwy
          go_still_tail 16, (by kernel_rfl)
          change wpList _ _ _ _ _ wy.drew
          go_wp2
          have hwy := HWY.out
          subst hwy
          go_roundw
          case rel => exact ⟨k + 1, by omega, by go_num, (by repeat (first | with_reducible exact LW | with_reducible refine Loc.drew ?_ | with_reducible refine Loc.drewN ?_ _ | with_reducible refine Loc.alloc ?_ _ | (with_reducible refine Loc.below ?_ (by assumption)) | ((with_reducible refine Loc.other' ?_ ?_ _); (focus (first | omega | (simp; omega) | (simp; done)))) | ((with_reducible refine Loc.far' (by assumption) ?_ ?_); (focus (first | omega | (simp; omega) | (simp; done)))))), (by repeat (first | with_reducible exact hbw | with_reducible exact Below.refl _ _ | with_reducible refine below_drewN ?_ _ | with_reducible refine Below.drew ?_ | with_reducible refine Below.alloc ?_ ?_ _ | with_reducible refine Below.setCell ?_ ?_ _ | (with_reducible refine Below.next ?_ (by assumption)) | ((with_reducible refine Below.far' (by assumption) ?_ ?_ ?_); (focus (first | omega | (simp; omega) | (simp; done))); (focus (first | omega | (simp; omega) | (simp; done)))) | omega | (focus (simp; omega)) | (focus (simp; done)))), HA2.out, lk.set j ((u : Int) + 1), Lib.hid (by rw [HSU.out, HLK.out]), ⟨by simp; omega, by simp; omega⟩, Row.drew (w := World.setCell _ _ _) (by exact HSET.out)⟩
          case measure => simp [intOf]; omega
      · have hcnt : Hid (∀ (i : Nat) (h : i < lk.length), lk[i] = (s.whr.count (i : Int) : Nat)) := Lib.hid fun i h => by simp only [HLK.out, countsTo_get]; rw [usersTo_all (by omega)]
        have H2 : Hid (allIn s.whr 0 (s.cps.length - 1) = true) := Lib.hid (by have := HAL.out; rwa [List.take_of_length_le (by omega)] at this)
        clear HLK
        have HROW := Lib.hid hrow
        obtain ⟨wa, hwa⟩ : ∃ x, x = wr := ⟨_, rfl⟩
        subst hwa
        go_wp2
        clear hk hlt hrow
        go_loopw [5] (fun i wr => ∃ k : Nat, k ≤ s.cps.length ∧ i = .int .i64 k ∧ allK k (shOkAt s) = true ∧ ∃ q, wr = wa.drewN q) (fun i _ => s.cps.length - (intOf i).toNat)
        case atStart => exact ⟨0, Nat.zero_le _, rfl, rfl, 0, rfl⟩
        case round =>
          obtain ⟨k, hk, rfl, ht, q, rfl⟩ := hrel
          have HT := Lib.hid ht
          clear ht
          by_cases hlt : k < s.cps.length
          · have hpr := Rd.below hp hbw
            obtain ⟨b, off, rfl, hbl, hcc, hcc2⟩ := hpr.rCopyS hlt
            have hkl : k < lk.length := by omega
            obtain ⟨_, hg, hfz, hc2⟩ := HROW.out.int (by omega)
            have hc3 := hc2 k hkl
            rw [hcnt.out k hkl] at hc3
            have hcl := List.count_le_length (a := (k : Int)) (l := s.whr)
            obtain ⟨cnt, hcnte⟩ : ∃ n, n = s.whr.count (k : Int) := ⟨_, rfl⟩
            obtain ⟨p, hp0⟩ : ∃ p, p = s.cps[k]'hlt := ⟨_, rfl⟩
            have HB := Lib.hid (shOkAt_get hlt hp0)
            rw [← hp0] at hcc hcc2
            rw [← hcnte] at hc3 hcl HB
            clear hp0 hc2 hcnte hfz
            obtain ⟨vl, us⟩ := p
            simp only at hcc hcc2 HB
            cases hi1 : inB vl 0 255
            · have HI := Lib.hid hi1
              go_wp2
              go_quiet ((go_at_call 39; (first | exact quiet_left (l1In_any _ _ _ _) | exact quiet_add_left (l1In_any _ _ _ _))))
              go_wp2
              go_ret
              exact ⟨ret_bool (shared_no3 hlt (by rw [HB.out, HI.out]; rfl)).symm, (by repeat (first | with_reducible exact hbw | with_reducible exact Below.refl _ _ | with_reducible refine below_drewN ?_ _ | with_reducible refine Below.drew ?_ | with_reducible refine Below.alloc ?_ ?_ _ | with_reducible refine Below.setCell ?_ ?_ _ | (with_reducible refine Below.next ?_ (by assumption)) | ((with_reducible refine Below.far' (by assumption) ?_ ?_ ?_); (focus (first | omega | (simp; omega) | (simp; done))); (focus (first | omega | (simp; omega) | (simp; done)))) | omega | (focus (simp; omega)) | (focus (simp; done))))⟩
            · have HI := Lib.hid hi1
              cases hi2 : (us != (cnt : Int))
              · have HI2 : Hid ((us == (cnt : Int)) = true) := Lib.hid (by simpa using hi2)
                by_cases hi3 : (cnt : Int) < 1
                · have hi3' : decide ((cnt : Int) < 1) = true := by simpa using hi3
                  have HI3 : Hid (decide (1 ≤ us) = false) := Lib.hid (by have := HI2.out; simp at this ⊢; omega)
                  go_wp2
                  go_quiet ((go_at_call 39; (first | exact quiet_left (l1In_any _ _ _ _) | exact quiet_add_left (l1In_any _ _ _ _))))
                  go_wp2
                  go_ret
                  exact ⟨ret_bool (shared_no3 hlt (by rw [HB.out, HI.out, HI2.out, HI3.out]; rfl)).symm, (by repeat (first | with_reducible exact hbw | with_reducible exact Below.refl _ _ | with_reducible refine below_drewN ?_ _ | with_reducible refine Below.drew ?_ | with_reducible refine Below.alloc ?_ ?_ _ | with_reducible refine Below.setCell ?_ ?_ _ | (with_reducible refine Below.next ?_ (by assumption)) | ((with_reducible refine Below.far' (by assumption) ?_ ?_ ?_); (focus (first | omega | (simp; omega) | (simp; done))); (focus (first | omega | (simp; omega) | (simp; done)))) | omega | (focus (simp; omega)) | (focus (simp; done))))⟩
                · have hi3' : decide ((cnt : Int) < 1) = false := by simpa using hi3
                  have HI3 : Hid (decide (1 ≤ us) = true) := Lib.hid (by have := HI2.out; simp at this ⊢; omega)
                  go_wp2
                  go_quiet ((go_at_call 39; (first | exact quiet_left (l1In_any _ _ _ _) | exact quiet_add_left (l1In_any _ _ _ _))))
                  go_wp2
                  clear hi1 hi2 hi3 hi3'
                  go_loopw [6] (fun i wr' => ∃ j : Nat, j ≤ k ∧ i = .int .i64 j ∧ (∀ t (ht : t < s.cps.length), t < j → s.cps[t].val ≠ vl) ∧ ∃ q, wr' = wa.drewN q) (fun i _ => k - (intOf i).toNat)
                  case atStart => exact ⟨0, Nat.zero_le _, rfl, fun _ _ h => absurd h (by omega), _, by first | rfl | exact World.drewN_drewN ..⟩
                  case round =>
                    obtain ⟨j, hj, rfl, hn, q2, rfl⟩ := hrel
                    have HN := Lib.hid hn
                    clear hn
                    by_cases hjk : j < k
                    · have hjl : j < s.cps.length := by omega
                      obtain ⟨b2, off2, hbe, _, hcj, _⟩ := hpr.rCopyS hjl
                      cases hbe
                      cases hee : ((s.cps[j]'hjl).val == vl)
                      · have HE := Lib.hid hee
                        go_wp2
                        go_quiet (fail)
                        go_wp2
                        go_roundw
                        case rel =>
                          refine ⟨j + 1, by omega, by go_num, ?_, _, by first | rfl | exact World.drewN_drewN ..⟩
                          intro i hi hij
                          by_cases hij2 : i = j
                          · subst hij2
                            simpa using HE.out
                          · exact HN.out i hi (by omega)
                        case measure => simp [intOf]; omega
                      · have HE := Lib.hid hee
                        go_wp2
                        go_quiet (fail)
                        go_wp2
                        go_ret
                        exact ⟨ret_bool (shared_no3 hlt (sh_no_old HB hjl hjk (by simpa using HE.out))).symm, (by repeat (first | with_reducible exact hbw | with_reducible exact Below.refl _ _ | with_reducible refine below_drewN ?_ _ | with_reducible refine Below.drew ?_ | with_reducible refine Below.alloc ?_ ?_ _ | with_reducible refine Below.setCell ?_ ?_ _ | (with_reducible refine Below.next ?_ (by assumption)) | ((with_reducible refine Below.far' (by assumption) ?_ ?_ ?_); (focus (first | omega | (simp; omega) | (simp; done))); (focus (first | omega | (simp; omega) | (simp; done)))) | omega | (focus (simp; omega)) | (focus (simp; done))))⟩
                    · have HOK : Hid (shOkAt s k = true) := Lib.hid (sh_ok_new HB HI.out HI2.out HI3.out (by omega) fun t ht htk => HN.out t ht (by omega))
                      go_wp2
                      go_roundw
                      case rel => exact ⟨k + 1, by omega, by go_num, allK_succ HT.out HOK.out, _, by first | rfl | exact World.drewN_drewN ..⟩
                      case measure => simp [intOf]; omega
              · have HI2 : Hid ((us == (cnt : Int)) = false) := Lib.hid (by simpa using hi2)
                go_wp2
                go_quiet ((go_at_call 39; (first | exact quiet_left (l1In_any _ _ _ _) | exact quiet_add_left (l1In_any _ _ _ _))))
                go_wp2
                go_ret
                exact ⟨ret_bool (shared_no3 hlt (by rw [HB.out, HI.out, HI2.out]; rfl)).symm, (by repeat (first | with_reducible exact hbw | with_reducible exact Below.refl _ _ | with_reducible refine below_drewN ?_ _ | with_reducible refine Below.drew ?_ | with_reducible refine Below.alloc ?_ ?_ _ | with_reducible refine Below.setCell ?_ ?_ _ | (with_reducible refine Below.next ?_ (by assumption)) | ((with_reducible refine Below.far' (by assumption) ?_ ?_ ?_); (focus (first | omega | (simp; omega) | (simp; done))); (focus (first | omega | (simp; omega) | (simp; done)))) | omega | (focus (simp; omega)) | (focus (simp; done))))⟩
          · have hke : k = s.cps.length := by omega
            have HY := Lib.hid (shared_yes H1.out H2.out (by rw [← hke]; exact HT.out))
            go_wp2
            go_ret
            exact ⟨ret_bool HY.out.symm, (by repeat (first | with_reducible exact hbw | with_reducible exact Below.refl _ _ | with_reducible refine below_drewN ?_ _ | with_reducible refine Below.drew ?_ | with_reducible refine Below.alloc ?_ ?_ _ | with_reducible refine Below.setCell ?_ ?_ _ | (with_reducible refine Below.next ?_ (by assumption)) | ((with_reducible refine Below.far' (by assumption) ?_ ?_ ?_); (focus (first | omega | (simp; omega) | (simp; done))); (focus (first | omega | (simp; omega) | (simp; done)))) | omega | (focus (simp; omega)) | (focus (simp; done))))⟩
  · have h1' : decide ((64 : Int) < s.whr.length) = true := by simp; omega
    go_enter Try.func13, Try.ntmps13
    go_wp2
    go_ret
    exact ⟨ret_bool (shared_no1 (by simpa using h1)).symm, (by repeat (first | with_reducible exact Below.refl _ _ | with_reducible assumption | with_reducible refine below_drewN ?_ _ | with_reducible refine Below.drew ?_ | with_reducible refine Below.alloc ?_ ?_ _ | with_reducible refine Below.setCell ?_ ?_ _ | (with_reducible refine Below.next ?_ (by assumption)) | omega | (focus (simp; omega)) | (focus (simp; done))))⟩
end Go.Proofs.Ytpekccmhfkeadaa
