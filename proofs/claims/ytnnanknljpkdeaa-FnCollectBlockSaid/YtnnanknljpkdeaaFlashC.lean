/-
  Flash memories: the program's and the reference's functions. Conditions: lengths at most 2^40.
-/
import Derived.Test.YtnnanknljpkdeaaBase
import Derived.Test.YtnnanknljpkdeaaNum
import Derived.Test.YtnnanknljpkdeaaInts
import Derived.Test.YtnnanknljpkdeaaApp
import Derived.Test.YtnnanknljpkdeaaIntsW
import Derived.Test.YtnnanknljpkdeaaLib
import Derived.Test.YtnnanknljpkdeaaSpares
import Derived.Test.YtnnanknljpkdeaaOwn
import Derived.Test.YtnnanknljpkdeaaPage
import Derived.Test.YtnnanknljpkdeaaFlash
import Derived.Test.YtnnanknljpkdeaaFlashM
namespace Go.Proofs.Ytnnanknljpkdeaa
open Go.RowKit
set_option maxHeartbeats 4000000 in
theorem implFlash_c (x0 x1 : Value) (f : Fl) (w : World) (h : FlashRd w [x0, x1] f) (hs : sizeFlash f ≤ 1099511627776) :
    Calls Try.prog 19 #[.agg #[x0, x1]] w fun e w' => e = .returned (.bool (flashB f)) ∧ Below w.heap.size w w' := by
  obtain ⟨u, v, h1, ⟨A, c, rfl, ha, hc0, hm0, hn0⟩, ⟨A', c', rfl, hp, hc1, hm1, hn1⟩⟩ := h
  simp only [List.cons.injEq, and_true] at h1
  obtain ⟨rfl, rfl⟩ := h1
  unfold sizeFlash at hs
  have L0 := Loc.new w [.slice A f.pages.length c, .slice A' f.erases.length c'] 30
  cases h1 : inB f.erases.length 2 6
  · have H1 := Lib.hid h1
    go_enter Try.func19, Try.ntmps19
    go_wp2_with (go_at_call 52; refine (within_any _ _ _ _).mono ?_; rintro e w' ⟨rfl, rfl⟩)
    go_ret
    exact ⟨ret_bool (flash_no1 H1.out).symm, (by repeat (first | with_reducible exact Below.refl _ _ | with_reducible assumption | with_reducible refine below_drewN ?_ _ | with_reducible refine Below.drew ?_ | with_reducible refine Below.alloc ?_ ?_ _ | with_reducible refine Below.setCell ?_ ?_ _ | (with_reducible refine Below.next ?_ (by assumption)) | omega | (focus (simp; omega)) | (focus (simp; done))))⟩
  have H1 := Lib.hid h1
  obtain ⟨n2, n6⟩ := inB_true.1 h1
  by_cases h2 : f.pages.length = f.erases.length * 4
  · have h2' : ((f.pages.length : Int) != (f.erases.length : Int) * 4) = false := by
      rw [bne_eq_false_iff_eq]; omega
    have H2 : Hid (decide (f.pages.length = f.erases.length * 4) = true) := Lib.hid (by simpa using h2)
    have hp24 : f.pages.length ≤ 24 := by omega
    clear h2
    cases h3 : allIn f.erases 0 1000000
    · have H3 := Lib.hid h3
      go_enter Try.func19, Try.ntmps19
      go_wp2_with (first
        | (go_at_call 52; refine (within_any _ _ _ _).mono ?_; rintro e w' ⟨rfl, rfl⟩)
        | (go_at_call 53; refine (allWithin_any A' c' f.erases _ _ _ (hp.alloc _) (by omega)).mono ?_; rw [H3.out]; rintro e w' ⟨rfl, rfl⟩))
      go_ret
      exact ⟨ret_bool (flash_no3 H3.out).symm, (by repeat (first | with_reducible exact Below.refl _ _ | with_reducible assumption | with_reducible refine below_drewN ?_ _ | with_reducible refine Below.drew ?_ | with_reducible refine Below.alloc ?_ ?_ _ | with_reducible refine Below.setCell ?_ ?_ _ | (with_reducible refine Below.next ?_ (by assumption)) | omega | (focus (simp; omega)) | (focus (simp; done))))⟩
    · have H3 := Lib.hid h3
      clear h3
      go_enter Try.func19, Try.ntmps19
      go_wp2_with (first
        | (go_at_call 52; refine (within_any _ _ _ _).mono ?_; rintro e w' ⟨rfl, rfl⟩)
        | (go_at_call 53; refine (allWithin_any A' c' f.erases _ _ _ (hp.alloc _) (by omega)).mono ?_; rw [H3.out]; rintro e w' ⟨rfl, rfl⟩))
      clear h1 h2'
      go_loopw [29] (fun i wr => ∃ k : Nat, k ≤ f.pages.length ∧ i = .int .i64 k ∧ allK k (flashOkAt f) = true ∧ Loc wr w.heap.size [.slice A f.pages.length c, .slice A' f.erases.length c'] ∧ Below w.heap.size w wr) (fun i _ => f.pages.length - (intOf i).toNat)
      case atStart => exact ⟨0, Nat.zero_le _, rfl, rfl, L0, (by repeat (first | with_reducible exact Below.refl _ _ | with_reducible assumption | with_reducible refine below_drewN ?_ _ | with_reducible refine Below.drew ?_ | with_reducible refine Below.alloc ?_ ?_ _ | with_reducible refine Below.setCell ?_ ?_ _ | (with_reducible refine Below.next ?_ (by assumption)) | omega | (focus (simp; omega)) | (focus (simp; done))))⟩
      case round =>
        obtain ⟨k, hk, rfl, ht, LW, hbw⟩ := hrel
        have HT := Lib.hid ht
        have hsz := hbw.size
        have hzl := LW.lt
        obtain ⟨k0, k1, kf⟩ := LW.two
        clear ht
        by_cases hlt : k < f.pages.length
        · obtain ⟨b, off, rfl, hbl, hcc, hcc2⟩ := (ha.below hbw).rPageS hlt
          obtain ⟨p, hp0⟩ : ∃ p, p = f.pages[k]'hlt := ⟨_, rfl⟩
          have HB := Lib.hid (flashOkAt_get hlt hp0)
          rw [← hp0] at hcc hcc2
          clear hp0
          obtain ⟨o, v⟩ := p
          simp only at hcc hcc2 HB
          cases hi1 : inB o (-2) (((f.erases.length : Int) - 1) * 4 - 1)
          · have HI := Lib.hid hi1
            go_wp2_with (go_at_call 52; refine (within_any _ _ _ _).mono ?_; rintro e w' ⟨rfl, rfl⟩)
            go_ret
            exact ⟨ret_bool (flash_no4 hlt (by rw [HB.out, HI.out]; rfl)).symm, (by repeat (first | with_reducible exact Below.refl _ _ | with_reducible assumption | with_reducible refine below_drewN ?_ _ | with_reducible refine Below.drew ?_ | with_reducible refine Below.alloc ?_ ?_ _ | with_reducible refine Below.setCell ?_ ?_ _ | (with_reducible refine Below.next ?_ (by assumption)) | omega | (focus (simp; omega)) | (focus (simp; done))))⟩
          · cases hi2 : inB v 0 255
            · have HI := Lib.hid hi1
              have HI2 := Lib.hid hi2
              go_wp2_with (go_at_call 52; refine (within_any _ _ _ _).mono ?_; rintro e w' ⟨rfl, rfl⟩)
              go_ret
              exact ⟨ret_bool (flash_no4 hlt (by rw [HB.out, HI.out, HI2.out]; rfl)).symm, (by repeat (first | with_reducible exact Below.refl _ _ | with_reducible assumption | with_reducible refine below_drewN ?_ _ | with_reducible refine Below.drew ?_ | with_reducible refine Below.alloc ?_ ?_ _ | with_reducible refine Below.setCell ?_ ?_ _ | (with_reducible refine Below.next ?_ (by assumption)) | omega | (focus (simp; omega)) | (focus (simp; done))))⟩
            · have HI := Lib.hid hi1
              have HI2 := Lib.hid hi2
              by_cases hneg : o < 0
              · have hn' : decide (0 ≤ o) = false := by simpa using hneg
                have HN := Lib.hid hn'
                go_wp2_with (go_at_call 52; refine (within_any _ _ _ _).mono ?_; rintro e w' ⟨rfl, rfl⟩)
                go_quiet (fail)
                go_wp2
                first
                  | (go_roundw
                     case rel => exact ⟨k + 1, by omega, by go_num, allK_succ HT.out (by rw [HB.out, HI.out, HI2.out, HN.out]; rfl), (by repeat (first | with_reducible exact LW | with_reducible refine Loc.drew ?_ | with_reducible refine Loc.drewN ?_ _ | with_reducible refine Loc.alloc ?_ _ | (with_reducible refine Loc.below ?_ (by assumption)) | ((with_reducible refine Loc.other' ?_ ?_ _); (focus (first | omega | (simp; omega) | (simp; done)))) | ((with_reducible refine Loc.far' (by assumption) ?_ ?_); (focus (first | omega | (simp; omega) | (simp; done)))))), (by repeat (first | with_reducible exact hbw | with_reducible exact Below.refl _ _ | with_reducible refine below_drewN ?_ _ | with_reducible refine Below.drew ?_ | with_reducible refine Below.alloc ?_ ?_ _ | with_reducible refine Below.setCell ?_ ?_ _ | (with_reducible refine Below.next ?_ (by assumption)) | ((with_reducible refine Below.far' (by assumption) ?_ ?_ ?_); (focus (first | omega | (simp; omega) | (simp; done))); (focus (first | omega | (simp; omega) | (simp; done)))) | omega | (focus (simp; omega)) | (focus (simp; done))))⟩
                     case measure => simp [intOf]; omega)
                  | trace_state
              · have hn' : decide (0 ≤ o) = true := by simpa using hneg
                have HN := Lib.hid hn'
                have hlk : (f.pages.take k).length = k := by simp; omega
                have HLK := Lib.hid hlk
                clear hlk
                have hk0 : (0 : Int) ≤ (k : Int) := by omega
                have hk1 : (k : Int) ≤ (c : Int) := by omega
                obtain ⟨ix, hix⟩ : ∃ ix, ix = idx ((f.pages.take k).map Pg.own) o := ⟨_, rfl⟩
                have HIX := Lib.hid hix
                clear hix
                cases hmem : decide (0 ≤ ix)
                · have HMM : Hid (decide (o ∈ (f.pages.take k).map Pg.own) = false) := Lib.hid (by have := @idx_mem ((f.pages.take k).map Pg.own) o; rw [← HIX.out] at this; simp only [decide_eq_false_iff_not] at hmem ⊢; exact fun h => hmem (this.2 h))
                  go_wp2_with (go_at_call 52; refine (within_any _ _ _ _).mono ?_; rintro e w' ⟨rfl, rfl⟩)
                  go_region_held3 (fun w' => w'.cell? ⟨wr.heap.size, 0, none⟩ = some (.int .i64 o) ∧ w'.cell? ⟨w.heap.size, 0, none⟩ = some (.slice (some ⟨b, off, none⟩) f.pages.length c)) (first | (refine ⟨?_, ?_⟩ <;> assumption) | (refine ⟨?_, ?_⟩ <;> (simp [go_sem, *]; done)) | go_keep)
                    ((go_at_call 54; (with_reducible refine (pageOf_any _ _ _ (f.pages.take k) o _ HLK.out ((Rd.below ha (by repeat (first | with_reducible exact hbw | with_reducible exact Below.refl _ _ | with_reducible refine below_drewN ?_ _ | with_reducible refine Below.drew ?_ | with_reducible refine Below.alloc ?_ ?_ _ | with_reducible refine Below.setCell ?_ ?_ _ | (with_reducible refine Below.next ?_ (by assumption)) | ((with_reducible refine Below.far' (by assumption) ?_ ?_ ?_); (focus (first | omega | (simp; omega) | (simp; done))); (focus (first | omega | (simp; omega) | (simp; done)))) | omega | (focus (simp; omega)) | (focus (simp; done))))).take k) (by omega)).mono ?_); rw [← HIX.out]; rintro e w3 ⟨rfl, hb3⟩; have P1 := Loc.carryB (Loc.newAt wr [.int .i64 o, .int .i64 v] 42 (b := wr.heap.size) rfl) (fun h => by ((repeat (first | with_reducible exact h | with_reducible refine Loc.drew ?_ | with_reducible refine Loc.drewN ?_ _ | with_reducible refine Loc.alloc ?_ _)); done)) hb3; have Q1 := Loc.carryB LW (fun h => by ((repeat (first | with_reducible exact h | with_reducible refine Loc.drew ?_ | with_reducible refine Loc.drewN ?_ _ | with_reducible refine Loc.alloc ?_ _)); done)) hb3; obtain ⟨p0, p1, pf⟩ := P1.two; obtain ⟨q0, q1, qf⟩ := Q1.two; have W3 : Below w.heap.size w w3 := Below.next (W := w) (by repeat (first | with_reducible exact hbw | with_reducible exact Below.refl _ _ | with_reducible refine below_drewN ?_ _ | with_reducible refine Below.drew ?_ | with_reducible refine Below.alloc ?_ ?_ _ | with_reducible refine Below.setCell ?_ ?_ _ | (with_reducible refine Below.next ?_ (by assumption)) | ((with_reducible refine Below.far' (by assumption) ?_ ?_ ?_); (focus (first | omega | (simp; omega) | (simp; done))); (focus (first | omega | (simp; omega) | (simp; done)))) | omega | (focus (simp; omega)) | (focus (simp; done)))) hb3))
                  go_wp2
                  first
                    | (go_roundw
                       case rel => exact ⟨k + 1, by omega, by go_num, allK_succ HT.out (by rw [HB.out, HI.out, HI2.out, HN.out, HMM.out]; rfl), Q1, W3⟩
                       case measure => simp [intOf]; omega)
                    | trace_state
                · have HMM : Hid (decide (o ∈ (f.pages.take k).map Pg.own) = true) := Lib.hid (by have := @idx_mem ((f.pages.take k).map Pg.own) o; rw [← HIX.out] at this; simp only [decide_eq_true_eq] at hmem ⊢; exact this.1 hmem)
                  go_wp2_with (go_at_call 52; refine (within_any _ _ _ _).mono ?_; rintro e w' ⟨rfl, rfl⟩)
                  go_region_held3 (fun w' => w'.cell? ⟨wr.heap.size, 0, none⟩ = some (.int .i64 o) ∧ w'.cell? ⟨w.heap.size, 0, none⟩ = some (.slice (some ⟨b, off, none⟩) f.pages.length c)) (first | (refine ⟨?_, ?_⟩ <;> assumption) | (refine ⟨?_, ?_⟩ <;> (simp [go_sem, *]; done)) | go_keep)
                    ((go_at_call 54; (with_reducible refine (pageOf_any _ _ _ (f.pages.take k) o _ HLK.out ((Rd.below ha (by repeat (first | with_reducible exact hbw | with_reducible exact Below.refl _ _ | with_reducible refine below_drewN ?_ _ | with_reducible refine Below.drew ?_ | with_reducible refine Below.alloc ?_ ?_ _ | with_reducible refine Below.setCell ?_ ?_ _ | (with_reducible refine Below.next ?_ (by assumption)) | ((with_reducible refine Below.far' (by assumption) ?_ ?_ ?_); (focus (first | omega | (simp; omega) | (simp; done))); (focus (first | omega | (simp; omega) | (simp; done)))) | omega | (focus (simp; omega)) | (focus (simp; done))))).take k) (by omega)).mono ?_); rw [← HIX.out]; rintro e w3 ⟨rfl, hb3⟩; have P1 := Loc.carryB (Loc.newAt wr [.int .i64 o, .int .i64 v] 42 (b := wr.heap.size) rfl) (fun h => by ((repeat (first | with_reducible exact h | with_reducible refine Loc.drew ?_ | with_reducible refine Loc.drewN ?_ _ | with_reducible refine Loc.alloc ?_ _)); done)) hb3; have Q1 := Loc.carryB LW (fun h => by ((repeat (first | with_reducible exact h | with_reducible refine Loc.drew ?_ | with_reducible refine Loc.drewN ?_ _ | with_reducible refine Loc.alloc ?_ _)); done)) hb3; obtain ⟨p0, p1, pf⟩ := P1.two; obtain ⟨q0, q1, qf⟩ := Q1.two; have W3 : Below w.heap.size w w3 := Below.next (W := w) (by repeat (first | with_reducible exact hbw | with_reducible exact Below.refl _ _ | with_reducible refine below_drewN ?_ _ | with_reducible refine Below.drew ?_ | with_reducible refine Below.alloc ?_ ?_ _ | with_reducible refine Below.setCell ?_ ?_ _ | (with_reducible refine Below.next ?_ (by assumption)) | ((with_reducible refine Below.far' (by assumption) ?_ ?_ ?_); (focus (first | omega | (simp; omega) | (simp; done))); (focus (first | omega | (simp; omega) | (simp; done)))) | omega | (focus (simp; omega)) | (focus (simp; done)))) hb3))
                  go_wp2
                  go_ret
                  exact ⟨ret_bool (flash_no4 hlt (by rw [HB.out, HI.out, HI2.out, HN.out, HMM.out]; rfl)).symm, W3⟩
        · have hke : k = f.pages.length := by omega
          have HY := Lib.hid (flash_yes H1.out H2.out H3.out (by rw [← hke]; exact HT.out))
          go_wp2
          go_ret
          exact ⟨ret_bool HY.out.symm, hbw⟩
  · have h2' : ((f.pages.length : Int) != (f.erases.length : Int) * 4) = true := by
      simp only [bne_iff_ne, ne_eq]; omega
    have H2 : Hid (decide (f.pages.length = f.erases.length * 4) = false) := Lib.hid (by simpa using h2)
    clear h2
    go_enter Try.func19, Try.ntmps19
    go_wp2_with (go_at_call 52; refine (within_any _ _ _ _).mono ?_; rintro e w' ⟨rfl, rfl⟩)
    go_ret
    exact ⟨ret_bool (flash_no2 H2.out).symm, (by repeat (first | with_reducible exact Below.refl _ _ | with_reducible assumption | with_reducible refine below_drewN ?_ _ | with_reducible refine Below.drew ?_ | with_reducible refine Below.alloc ?_ ?_ _ | with_reducible refine Below.setCell ?_ ?_ _ | (with_reducible refine Below.next ?_ (by assumption)) | omega | (focus (simp; omega)) | (focus (simp; done))))⟩
set_option maxHeartbeats 400000 in
theorem l20Logical_any (n : Int) (w : World) (h0 : 0 ≤ n) (h1 : n ≤ 1000000) :
    Calls Try.prog 49 #[.int .i64 n] w fun e w' => e = .returned (.int .i64 ((n - 1) * 4)) ∧ w = w' := by
  go_enter Try.func49, Try.ntmps49
  go_wp2
  go_ret
  exact ⟨rfl, rfl⟩
theorem flash_ok_new {f : Fl} {k : Nat} {o v : Int} (hB : Hid (flashOkAt f k = (inB o (-2) (((f.erases.length : Int) - 1) * 4 - 1) && inB v 0 255 && !(decide (0 ≤ o) && decide (o ∈ (f.pages.take k).map Pg.own)))))
    (h1 : inB o (-2) (((f.erases.length : Int) - 1) * 4 - 1) = true) (h2 : inB v 0 255 = true) (hk : k ≤ f.pages.length) (hn : 0 ≤ o → ∀ j (hj : j < f.pages.length), j < k → f.pages[j].own ≠ o) : flashOkAt f k = true := by
  rw [hB.out, h1, h2]
  by_cases h0 : 0 ≤ o
  · have : o ∉ (f.pages.take k).map Pg.own := by
      intro hm
      obtain ⟨p, hp, hpo⟩ := List.mem_map.1 hm
      obtain ⟨j, hj, rfl⟩ := List.getElem_of_mem hp
      have hjk : j < k := by simp at hj; omega
      exact hn h0 j (by omega) hjk (by simpa using hpo)
    rw [decide_eq_false this]
    simp
  · simp [h0]
theorem flash_no_old {f : Fl} {k j : Nat} {o v : Int} (hB : Hid (flashOkAt f k = (inB o (-2) (((f.erases.length : Int) - 1) * 4 - 1) && inB v 0 255 && !(decide (0 ≤ o) && decide (o ∈ (f.pages.take k).map Pg.own)))))
    (h0 : 0 ≤ o) (hj : j < f.pages.length) (hjk : j < k) (he : f.pages[j].own = o) : flashOkAt f k = false := by
  rw [hB.out]
  have : o ∈ (f.pages.take k).map Pg.own := List.mem_map.2 ⟨f.pages[j], by rw [List.mem_take_iff_getElem]; exact ⟨j, by omega, rfl⟩, he⟩
  rw [decide_eq_true this, decide_eq_true h0]
  simp
set_option maxHeartbeats 4000000 in
theorem specFlash_c (x0 x1 : Value) (f : Fl) (w : World) (h : FlashRd w [x0, x1] f) (hs : sizeFlash f ≤ 1099511627776) :
    Calls Try.prog 17 #[.agg #[x0, x1]] w fun e w' => e = .returned (.bool (flashB f)) ∧ Below w.heap.size w w' := by
  obtain ⟨u, v, h1, ⟨A, c, rfl, ha, hc0, hm0, hn0⟩, ⟨A', c', rfl, hp, hc1, hm1, hn1⟩⟩ := h
  simp only [List.cons.injEq, and_true] at h1
  obtain ⟨rfl, rfl⟩ := h1
  unfold sizeFlash at hs
  have L0 := Loc.new w [.slice A f.pages.length c, .slice A' f.erases.length c'] 30
  cases h1 : inB f.erases.length 2 6
  · have H1 := Lib.hid h1
    go_enter Try.func17, Try.ntmps17
    go_wp2_with (go_at_call 48; refine (l1In_any _ _ _ _).mono ?_; rintro e w' ⟨rfl, rfl⟩)
    go_ret
    exact ⟨ret_bool (flash_no1 H1.out).symm, (by repeat (first | with_reducible exact Below.refl _ _ | with_reducible assumption | with_reducible refine below_drewN ?_ _ | with_reducible refine Below.drew ?_ | with_reducible refine Below.alloc ?_ ?_ _ | with_reducible refine Below.setCell ?_ ?_ _ | (with_reducible refine Below.next ?_ (by assumption)) | omega | (focus (simp; omega)) | (focus (simp; done))))⟩
  have H1 := Lib.hid h1
  obtain ⟨n2, n6⟩ := inB_true.1 h1
  by_cases h2 : f.pages.length = f.erases.length * 4
  · have h2' : ((f.pages.length : Int) != (f.erases.length : Int) * 4) = false := by
      rw [bne_eq_false_iff_eq]; omega
    have H2 : Hid (decide (f.pages.length = f.erases.length * 4) = true) := Lib.hid (by simpa using h2)
    have hp24 : f.pages.length ≤ 24 := by omega
    clear h2
    go_enter Try.func17, Try.ntmps17
    go_wp2_with (go_at_call 48; refine (l1In_any _ _ _ _).mono ?_; rintro e w' ⟨rfl, rfl⟩)
    clear h1 h2'
    go_loop [4] (fun i => ∃ k : Nat, k ≤ f.erases.length ∧ i = .int .i64 k ∧ allIn (f.erases.take k) 0 1000000 = true) (fun i => f.erases.length - (intOf i).toNat)
    case atStart => exact ⟨0, Nat.zero_le _, rfl, rfl⟩
    case round =>
      obtain ⟨k, hk, rfl, ht⟩ := hrel
      have HT := Lib.hid ht
      clear ht
      by_cases hlt : k < f.erases.length
      · obtain ⟨b, off, rfl, hbl, hc⟩ := hp.int hlt
        have hne : b ≠ w.heap.size := by omega
        cases hin : inB (f.erases[k]'hlt) 0 1000000
        · have HI := Lib.hid hin
          go_wp2_with (go_at_call 48; refine (l1In_any _ _ _ _).mono ?_; rintro e w' ⟨rfl, rfl⟩)
          go_ret
          exact ⟨ret_bool (flash_no3 (allIn_no hlt HI.out)).symm, (by repeat (first | with_reducible exact Below.refl _ _ | with_reducible assumption | with_reducible refine below_drewN ?_ _ | with_reducible refine Below.drew ?_ | with_reducible refine Below.alloc ?_ ?_ _ | with_reducible refine Below.setCell ?_ ?_ _ | (with_reducible refine Below.next ?_ (by assumption)) | omega | (focus (simp; omega)) | (focus (simp; done))))⟩
        · have HI := Lib.hid hin
          go_wp2_with (go_at_call 48; refine (l1In_any _ _ _ _).mono ?_; rintro e w' ⟨rfl, rfl⟩)
          go_round
          case rel => exact ⟨k + 1, by omega, by go_num, allIn_take HT.out hlt HI.out⟩
          case measure => simp [intOf]; omega
      · have H3 : Hid (allIn f.erases 0 1000000 = true) := Lib.hid (by have := HT.out; rwa [List.take_of_length_le (by omega)] at this)
        go_wp2
        clear HT hk hlt
        go_loopw [5] (fun i wr => ∃ k : Nat, k ≤ f.pages.length ∧ i = .int .i64 k ∧ allK k (flashOkAt f) = true ∧ Loc wr w.heap.size [.slice A f.pages.length c, .slice A' f.erases.length c'] ∧ Below w.heap.size w wr) (fun i _ => f.pages.length - (intOf i).toNat)
        case atStart => exact ⟨0, Nat.zero_le _, rfl, rfl, L0, (by repeat (first | with_reducible exact Below.refl _ _ | with_reducible assumption | with_reducible refine below_drewN ?_ _ | with_reducible refine Below.drew ?_ | with_reducible refine Below.alloc ?_ ?_ _ | with_reducible refine Below.setCell ?_ ?_ _ | (with_reducible refine Below.next ?_ (by assumption)) | omega | (focus (simp; omega)) | (focus (simp; done))))⟩
        case round =>
          obtain ⟨k, hk, rfl, ht, LW, hbw⟩ := hrel
          have HT := Lib.hid ht
          have hsz := hbw.size
          have hzl := LW.lt
          obtain ⟨k0, k1, kf⟩ := LW.two
          clear ht
          by_cases hlt : k < f.pages.length
          · have hra := Rd.below ha hbw
            obtain ⟨b, off, rfl, hbl, hcc, hcc2⟩ := hra.rPageS hlt
            obtain ⟨p, hp0⟩ : ∃ p, p = f.pages[k]'hlt := ⟨_, rfl⟩
            have HB := Lib.hid (flashOkAt_get hlt hp0)
            rw [← hp0] at hcc hcc2
            clear hp0
            obtain ⟨o, v⟩ := p
            simp only at hcc hcc2 HB
            cases hi1 : inB o (-2) (((f.erases.length : Int) - 1) * 4 - 1)
            · have HI := Lib.hid hi1
              go_wp2
              go_quiet ((first | (go_at_call 48; (first | exact quiet_left (l1In_any _ _ _ _) | exact quiet_add_left (l1In_any _ _ _ _))) | (go_at_call 49; (first | exact quiet_left (l20Logical_any _ _ (by omega) (by omega)) | exact quiet_add_left (l20Logical_any _ _ (by omega) (by omega))))))
              go_wp2
              go_ret
              exact ⟨ret_bool (flash_no4 hlt (by rw [HB.out, HI.out]; rfl)).symm, (by repeat (first | with_reducible exact Below.refl _ _ | with_reducible assumption | with_reducible refine below_drewN ?_ _ | with_reducible refine Below.drew ?_ | with_reducible refine Below.alloc ?_ ?_ _ | with_reducible refine Below.setCell ?_ ?_ _ | (with_reducible refine Below.next ?_ (by assumption)) | omega | (focus (simp; omega)) | (focus (simp; done))))⟩
            · cases hi2 : inB v 0 255
              · have HI := Lib.hid hi1
                have HI2 := Lib.hid hi2
                go_wp2
                go_quiet ((first | (go_at_call 48; (first | exact quiet_left (l1In_any _ _ _ _) | exact quiet_add_left (l1In_any _ _ _ _))) | (go_at_call 49; (first | exact quiet_left (l20Logical_any _ _ (by omega) (by omega)) | exact quiet_add_left (l20Logical_any _ _ (by omega) (by omega))))))
                go_wp2
                go_ret
                exact ⟨ret_bool (flash_no4 hlt (by rw [HB.out, HI.out, HI2.out]; rfl)).symm, (by repeat (first | with_reducible exact Below.refl _ _ | with_reducible assumption | with_reducible refine below_drewN ?_ _ | with_reducible refine Below.drew ?_ | with_reducible refine Below.alloc ?_ ?_ _ | with_reducible refine Below.setCell ?_ ?_ _ | (with_reducible refine Below.next ?_ (by assumption)) | omega | (focus (simp; omega)) | (focus (simp; done))))⟩
              · have HI := Lib.hid hi1
                have HI2 := Lib.hid hi2
                go_wp2
                go_quiet ((first | (go_at_call 48; (first | exact quiet_left (l1In_any _ _ _ _) | exact quiet_add_left (l1In_any _ _ _ _))) | (go_at_call 49; (first | exact quiet_left (l20Logical_any _ _ (by omega) (by omega)) | exact quiet_add_left (l20Logical_any _ _ (by omega) (by omega))))))
                go_wp2
                clear hi1 hi2
                have LP := Loc.newAt wr [.int .i64 o, .int .i64 v] 42 (b := wr.heap.size) rfl
                have LQ := Loc.alloc LW (.cells #[.int .i64 o, .int .i64 v] 42)
                have RQ := Rd.alloc hra (.cells #[.int .i64 o, .int .i64 v] 42)
                have BQ := Lib.hid ((hbw.alloc hsz (.cells #[.int .i64 o, .int .i64 v] 42)))
                go_loopw [7] (fun i wr' => ∃ j : Nat, j ≤ k ∧ i = .int .i64 j ∧ (0 ≤ o → ∀ t (ht : t < f.pages.length), t < j → f.pages[t].own ≠ o) ∧ ∃ q, wr' = (wr.alloc (.cells #[.int .i64 o, .int .i64 v] 42)).drewN q) (fun i _ => k - (intOf i).toNat)
                case atStart => exact ⟨0, Nat.zero_le _, rfl, fun _ _ _ h => absurd h (by omega), _, rfl⟩
                case round =>
                  obtain ⟨j, hj, rfl, hn, q2, rfl⟩ := hrel
                  have HN := Lib.hid hn
                  clear hn
                  by_cases hjk : j < k
                  · have hjl : j < f.pages.length := by omega
                    obtain ⟨b2, off2, hbe, _, hcj, _⟩ := RQ.rPageS hjl
                    cases hbe
                    by_cases hneg : o < 0
                    · have hn' : decide (0 ≤ o) = false := by simpa using hneg
                      go_wp2
                      go_quiet (fail)
                      go_wp2
                      exact ⟨⟨j + 1, by omega, by go_num, fun h => absurd h (by omega), _, rfl⟩, by simp [intOf]; omega⟩
                    · have hn' : decide (0 ≤ o) = true := by simpa using hneg
                      cases hee : ((f.pages[j]'hjl).own == o)
                      · have HE := Lib.hid hee
                        go_wp2
                        go_quiet (fail)
                        go_wp2
                        go_roundw
                        case rel =>
                          refine ⟨j + 1, by omega, by go_num, ?_, _, rfl⟩
                          intro h0 i hi hij
                          by_cases hij2 : i = j
                          · subst hij2
                            simpa using HE.out
                          · exact HN.out h0 i hi (by omega)
                        case measure => simp [intOf]; omega
                      · have HE := Lib.hid hee
                        go_wp2
                        go_quiet (fail)
                        go_wp2
                        go_ret
                        exact ⟨ret_bool (flash_no4 hlt (flash_no_old HB (by omega) hjl hjk (by simpa using HE.out))).symm, (by repeat (first | with_reducible exact BQ.out | with_reducible exact Below.refl _ _ | with_reducible refine below_drewN ?_ _ | with_reducible refine Below.drew ?_ | with_reducible refine Below.alloc ?_ ?_ _ | with_reducible refine Below.setCell ?_ ?_ _ | (with_reducible refine Below.next ?_ (by assumption)) | ((with_reducible refine Below.far' (by assumption) ?_ ?_ ?_); (focus (first | omega | (simp; omega) | (simp; done))); (focus (first | omega | (simp; omega) | (simp; done)))) | omega | (focus (simp; omega)) | (focus (simp; done))))⟩
                  · have HOK : Hid (flashOkAt f k = true) := Lib.hid (flash_ok_new HB HI.out HI2.out (by omega) fun h0 t ht htk => HN.out h0 t ht (by omega))
                    go_wp2
                    go_roundw
                    case rel => exact ⟨k + 1, by omega, by go_num, allK_succ HT.out HOK.out, Loc.drewN LQ _, below_drewN BQ.out _⟩
                    case measure => simp [intOf]; omega
          · have hke : k = f.pages.length := by omega
            have HY := Lib.hid (flash_yes H1.out H2.out H3.out (by rw [← hke]; exact HT.out))
            go_wp2
            go_ret
            exact ⟨ret_bool HY.out.symm, hbw⟩
  · have h2' : ((f.pages.length : Int) != (f.erases.length : Int) * 4) = true := by
      simp only [bne_iff_ne, ne_eq]; omega
    have H2 : Hid (decide (f.pages.length = f.erases.length * 4) = false) := Lib.hid (by simpa using h2)
    clear h2
    go_enter Try.func17, Try.ntmps17
    go_wp2_with (go_at_call 48; refine (l1In_any _ _ _ _).mono ?_; rintro e w' ⟨rfl, rfl⟩)
    go_ret
    exact ⟨ret_bool (flash_no2 H2.out).symm, (by repeat (first | with_reducible exact Below.refl _ _ | with_reducible assumption | with_reducible refine below_drewN ?_ _ | with_reducible refine Below.drew ?_ | with_reducible refine Below.alloc ?_ ?_ _ | with_reducible refine Below.setCell ?_ ?_ _ | (with_reducible refine Below.next ?_ (by assumption)) | omega | (focus (simp; omega)) | (focus (simp; done))))⟩
end Go.Proofs.Ytnnanknljpkdeaa
