/-
  Flash memories: collecting a block, the program's way. Conditions: lengths at most 2^40.
-/
import Derived.Test.YtnnanknljpkdeaaBase
import Derived.Test.YtnnanknljpkdeaaNum
import Derived.Test.YtnnanknljpkdeaaInts
import Derived.Test.YtnnanknljpkdeaaApp
import Derived.Test.YtnnanknljpkdeaaIntsW
import Derived.Test.YtnnanknljpkdeaaLib
import Derived.Test.YtnnanknljpkdeaaSpares
import Derived.Test.YtnnanknljpkdeaaOwn
import Derived.Test.YtnnanknljpkdeaaPage
import Derived.Test.YtnnanknljpkdeaaFlash
import Derived.Test.YtnnanknljpkdeaaFlashM
import Derived.Test.YtnnanknljpkdeaaFlashC
import Derived.Test.YtnnanknljpkdeaaFlashD
import Derived.Test.YtnnanknljpkdeaaFlashV
import Derived.Test.YtnnanknljpkdeaaThinC
import Derived.Test.YtnnanknljpkdeaaFlashW
import Derived.Test.YtnnanknljpkdeaaFlashX
namespace Go.Proofs.Ytnnanknljpkdeaa
open Go.RowKit
set_option maxHeartbeats 8000000 in
theorem collected_c (x0 x1 : Value) (f : Fl) (w : World) (h : FlashRd w [x0, x1] f) (hs : sizeFlash f ≤ 1099511627776) (ok : FlashOk f) (he0 : ∀ x ∈ f.erases, x ≤ 1000000) :
    Calls Try.prog 67 #[.agg #[x0, x1]] w (MadeFlashB (collectF f) (collectOk f) w) := by
  obtain ⟨A, c, A', c', rfl, rfl⟩ := flashRd_lens h
  have HR := Lib.hid h
  have HK := Lib.hid ok
  have n2 := ok.n2
  have n6 := ok.n6
  have lenA : f.pages.length ≤ f.erases.length * 4 := by rw [ok.len]; exact Nat.le_refl _
  have lenB : f.erases.length * 4 ≤ f.pages.length := by rw [ok.len]; exact Nat.le_refl _
  have hcap : f.pages.length ≤ c := by
    obtain ⟨u, v, h1, ⟨A9, c9, h2, _, h3, _⟩, _⟩ := h
    simp only [List.cons.injEq, and_true] at h1
    rw [← h1.1] at h2
    injection h2 with _ _ h2
    omega
  clear ok
  have L0 := Loc.new w [.slice A f.pages.length c, .slice A' f.erases.length c'] 30
  have L1 := Loc.newAt (w.alloc (.cells #[.slice A f.pages.length c, .slice A' f.erases.length c'] 30)) [.slice none 0 0, .slice none 0 0] 30 (b := w.heap.size + 1) (by simp)
  obtain ⟨k0, k1, kf⟩ := Loc.two (Loc.alloc L0 (.cells #[.slice none 0 0, .slice none 0 0] 30))
  go_enter Try.func67, Try.ntmps67
  go_wp2_with fail
  refine (cloneFlash_c _ _ f _ (FlashRd.below HR.out (by repeat (first | with_reducible exact Below.refl _ _ | with_reducible refine below_drewN ?_ _ | with_reducible refine Below.drew ?_ | with_reducible refine Below.alloc ?_ ?_ _ | with_reducible refine Below.setCell ?_ ?_ _ | omega | (focus (simp; omega)) | (focus (simp; done))))) hs).mono ?_
  rintro e w1 ⟨y0, y1, rfl, O1, hb1⟩
  obtain ⟨A1, c1, A2, c2, rfl, rfl⟩ := flashRd_lens O1.rd
  have M0 := Loc.carryB L0 (fun h => by ((repeat (first | with_reducible exact h | with_reducible refine Loc.drew ?_ | with_reducible refine Loc.drewN ?_ _ | with_reducible refine Loc.alloc ?_ _)); done)) hb1
  have M1 := Loc.carryB L1 (fun h => by ((repeat (first | with_reducible exact h | with_reducible refine Loc.drew ?_ | with_reducible refine Loc.drewN ?_ _ | with_reducible refine Loc.alloc ?_ _)); done)) hb1
  obtain ⟨m0, m1, mf⟩ := M0.two
  have zM := M0.lt
  have zM1 := M1.lt
  have hz1 := hb1.size
  simp at hz1
  have W1 : Hid (Below w.heap.size w w1) := Lib.hid (Below.next (W := w) (by repeat (first | with_reducible exact Below.refl _ _ | with_reducible refine below_drewN ?_ _ | with_reducible refine Below.drew ?_ | with_reducible refine Below.alloc ?_ ?_ _ | with_reducible refine Below.setCell ?_ ?_ _ | omega | (focus (simp; omega)) | (focus (simp; done)))) hb1)
  have OO := Lib.hid (FlashOwn.mono (B' := w.heap.size + 1 + 1) (C' := w1.heap.size) O1 (by simp) (Nat.le_refl _))
  clear O1 hb1 k0 k1 kf
  go_wp2
  have LX := Loc.newAt w1 [.slice A1 f.pages.length c1, .slice A2 f.erases.length c2] 30 (b := w1.heap.size) rfl
  have N0 := Loc.alloc M0 (.cells #[.slice A1 f.pages.length c1, .slice A2 f.erases.length c2] 30)
  have N1 := Loc.alloc M1 (.cells #[.slice A1 f.pages.length c1, .slice A2 f.erases.length c2] 30)
  have OX := Lib.hid (FlashOwn.alloc OO.out (.cells #[.slice A1 f.pages.length c1, .slice A2 f.erases.length c2] 30))
  have WX : Hid (Below w.heap.size w (w1.alloc (.cells #[.slice A1 f.pages.length c1, .slice A2 f.erases.length c2] 30))) := Lib.hid ((by repeat (first | with_reducible exact W1.out | with_reducible exact Below.refl _ _ | with_reducible refine below_drewN ?_ _ | with_reducible refine Below.drew ?_ | with_reducible refine Below.alloc ?_ ?_ _ | with_reducible refine Below.setCell ?_ ?_ _ | (with_reducible refine Below.next ?_ (by assumption)) | ((with_reducible refine Below.far' (by assumption) ?_ ?_ ?_); (focus (first | omega | (simp; omega) | (simp; done))); (focus (first | omega | (simp; omega) | (simp; done)))) | omega | (focus (simp; omega)) | (focus (simp; done)))))
  have PX := Lib.hid (FlashRd.pgs (FlashRd.below HR.out WX.out))
  have hX : (w1.alloc (.cells #[.slice A1 f.pages.length c1, .slice A2 f.erases.length c2] 30)).heap.size = w1.heap.size + 1 := by simp
  obtain ⟨w2, hw2⟩ : ∃ w2, w2 = w1.alloc (.cells #[.slice A1 f.pages.length c1, .slice A2 f.erases.length c2] 30) := ⟨_, rfl⟩
  have HX : Hid (w2.heap.size = w1.heap.size + 1) := Lib.hid (by rw [hw2]; exact hX)
  have hX1 : w2.heap.size ≤ w1.heap.size + 1 := by rw [HX.out]; exact Nat.le_refl _
  have hX2 : w1.heap.size + 1 ≤ w2.heap.size := by rw [HX.out]; exact Nat.le_refl _
  rw [← hw2] at LX N0 N1 OX WX PX ⊢
  clear hw2 hX M0 M1 m0 m1 mf zM zM1 L0 L1 OO
  go_loopw [5, 6, 19] (fun best most i wr => ∃ k : Nat, k ≤ f.erases.length ∧ i = .int .i64 k ∧ best = .int .i64 (bestK f.pages k : Nat) ∧ most = .int .i64 (mostK f.pages k : Nat) ∧ Below w2.heap.size w2 wr) (fun _ _ i _ => f.erases.length - (intOf i).toNat)
  case atStart => exact ⟨0, Nat.zero_le _, rfl, rfl, rfl, Below.refl _ _⟩
  case round =>
    obtain ⟨k, hk, rfl, rfl, rfl, hbw⟩ := hrel
    obtain ⟨wa, hwa⟩ : ∃ x, x = wr := ⟨_, rfl⟩
    subst hwa
    have zz := hbw.size
    have P0 := Loc.below N0 hbw
    obtain ⟨p0, p1, pf⟩ := P0.two
    have zP := P0.lt
    by_cases hlt : k < f.erases.length
    · have hmk := mostK_le f.pages k
      obtain ⟨lo, hlo⟩ : ∃ lo, lo = 4 * k := ⟨_, rfl⟩
      obtain ⟨hi, hhi⟩ : ∃ hi, hi = 4 * k + 4 := ⟨_, rfl⟩
      have e1 : (k : Int) * 4 = (lo : Int) := by omega
      have e2 : ((k : Int) + 1) * 4 = (hi : Int) := by omega
      have HLO := Lib.hid hlo
      have hlh : lo + 4 ≤ hi := by omega
      have hlh2 : hi ≤ lo + 4 := by omega
      have hhl : hi ≤ f.pages.length := by omega
      have hrd := Rd.below PX.out hbw
      obtain ⟨b, off, rfl, hbl⟩ : ∃ b off, A = some ⟨b, off, none⟩ ∧ b < wa.heap.size := by
        obtain ⟨b, off, h, hb, _⟩ := hrd.rPageS (k := lo) (by omega)
        exact ⟨b, off, h, hb⟩
      have hsl : Hid (Rd encPageS wa (some ⟨b, off + lo * 2, none⟩) (blockOf f.pages k)) := Lib.hid (by unfold blockOf; rw [← HLO.out]; exact Rd.take (Rd.dropAt hrd lo) 4)
      have hbln := block_length (l := f.pages) (b := k) (by omega)
      have HBL := Lib.hid hbln
      clear hlo hhi hbln
      go_wp2
      clear e1 e2 p0 p1 pf
      go_loopw [8, 31] (fun st i wa' => ∃ j : Nat, j ≤ hi - lo ∧ i = .int .i64 j ∧ st = .int .i64 (staleN ((blockOf f.pages k).take j) : Nat) ∧ Below wa.heap.size wa wa') (fun _ i _ => (hi - lo) - (intOf i).toNat)
      case atStart => exact ⟨0, Nat.zero_le _, rfl, rfl, Below.refl _ _⟩
      case round =>
        obtain ⟨j, hj, rfl, rfl, hbv⟩ := hrel
        have zv := hbv.size
        by_cases hjl : j < hi - lo
        · have hj4 : j < (blockOf f.pages k).length := by rw [HBL.out]; omega
          obtain ⟨b', off', hbe, hbl', hcc, hcc2⟩ := (Rd.below hsl.out hbv).rPageS hj4
          cases hbe
          have HS := Lib.hid (staleN_take hj4)
          have hsle := staleN_le ((blockOf f.pages k).take j)
          have htl : ((blockOf f.pages k).take j).length ≤ j := by rw [List.length_take]; omega
          obtain ⟨o, hoe⟩ : ∃ o, o = ((blockOf f.pages k)[j]'hj4).own := ⟨_, rfl⟩
          rw [← hoe] at hcc HS
          clear hoe
          cases hst : (o == -2)
          · have hne : ¬ o = -2 := by simpa using hst
            go_wp2
            go_roundw
            case rel => exact ⟨j + 1, by omega, by go_num, by rw [HS.out, if_neg hne]; rfl, (by repeat (first | with_reducible exact hbv | with_reducible exact Below.refl _ _ | with_reducible refine below_drewN ?_ _ | with_reducible refine Below.drew ?_ | with_reducible refine Below.alloc ?_ ?_ _ | with_reducible refine Below.setCell ?_ ?_ _ | (with_reducible refine Below.next ?_ (by assumption)) | ((with_reducible refine Below.far' (by assumption) ?_ ?_ ?_); (focus (first | omega | (simp; omega) | (simp; done))); (focus (first | omega | (simp; omega) | (simp; done)))) | omega | (focus (simp; omega)) | (focus (simp; done))))⟩
            case measure => simp [intOf]; omega
          · have hne : o = -2 := by simpa using hst
            have HNE := Lib.hid hne
            clear hne
            go_wp2
            go_roundw
            case rel => exact ⟨j + 1, by omega, by go_num, by rw [HS.out, if_pos HNE.out]; go_num, (by repeat (first | with_reducible exact hbv | with_reducible exact Below.refl _ _ | with_reducible refine below_drewN ?_ _ | with_reducible refine Below.drew ?_ | with_reducible refine Below.alloc ?_ ?_ _ | with_reducible refine Below.setCell ?_ ?_ _ | (with_reducible refine Below.next ?_ (by assumption)) | ((with_reducible refine Below.far' (by assumption) ?_ ?_ ?_); (focus (first | omega | (simp; omega) | (simp; done))); (focus (first | omega | (simp; omega) | (simp; done)))) | omega | (focus (simp; omega)) | (focus (simp; done))))⟩
            case measure => simp [intOf]; omega
        · have hs1 : Hid (staleN ((blockOf f.pages k).take j) = staleAt f.pages k) := Lib.hid (by rw [List.take_of_length_le (by rw [HBL.out]; omega)]; rfl)
          have hsl4 := staleAt_le f.pages k
          rw [hs1.out]
          obtain ⟨st, hst⟩ : ∃ st, st = staleAt f.pages k := ⟨_, rfl⟩
          have HST := Lib.hid hst
          rw [← hst] at hsl4 ⊢
          clear hst
          by_cases hgt : mostK f.pages k < st
          · have HB := Lib.hid (best_yes (by rw [← HST.out]; exact hgt))
            go_wp2
            go_roundw
            case rel => exact ⟨k + 1, by omega, by go_num, by rw [HB.out.1], by rw [HB.out.2, ← HST.out], Below.next hbw hbv⟩
            case measure => simp [intOf]; omega
          · have HB := Lib.hid (best_no (by rw [← HST.out]; exact hgt))
            go_wp2
            go_roundw
            case rel => exact ⟨k + 1, by omega, by go_num, by rw [HB.out.1], by rw [HB.out.2], Below.next hbw hbv⟩
            case measure => simp [intOf]; omega
    · have hkn : k = f.erases.length := by omega
      have hb4 := HK.out.best
      have hbl := bestK_lt f.pages f.erases.length (by omega)
      have hms : Hid (mostK f.pages k = staleAt f.pages (bestB f)) := Lib.hid (by unfold mostK bestB; rw [if_neg (by omega), hkn])
      have hbe : Hid (bestK f.pages k = bestB f) := Lib.hid (by unfold bestB; rw [hkn])
      have hms4 := staleAt_le f.pages (bestB f)
      rw [hms.out, hbe.out]
      have hbl' : bestB f < f.erases.length := hbl
      obtain ⟨bb, hbb⟩ : ∃ bb, bb = bestB f := ⟨_, rfl⟩
      have HBB := Lib.hid hbb
      obtain ⟨ms, hmse⟩ : ∃ ms, ms = staleAt f.pages (bestB f) := ⟨_, rfl⟩
      have HMS := Lib.hid hmse
      rw [← hmse, ← hbb]
      rw [← hbb] at hb4 hbl'
      rw [← hmse] at hms4
      clear hbl hmse hbb hkn hk
      have P1 := Loc.below N1 hbw
      have PXX := Loc.below LX hbw
      obtain ⟨r0, r1, rf⟩ := P1.two
      obtain ⟨t0, t1, tf⟩ := PXX.two
      have zP1 := P1.lt
      have zPX := PXX.lt
      have OW := Lib.hid (FlashOwn.below OX.out hbw)
      have WW : Hid (Below w.heap.size w wa) := Lib.hid (Below.next (W := w) WX.out hbw)
      by_cases hm0 : ms = 0
      · have hm0' : ((ms : Int) == 0) = true := by simp [hm0]
        have hcf : Hid (collectOk f = false) := Lib.hid (by unfold collectOk; rw [← HMS.out, hm0]; rfl)
        have hcc : Hid (collectF f = f) := Lib.hid (by unfold collectF; rw [hcf.out]; rfl)
        clear hm0
        go_wp2
        refine bodyPost_ret (v := .tuple #[.agg #[.slice A1 f.pages.length c1, .slice A2 f.erases.length c2], .bool false]) (by simp [results, Try.results67, go_sem, *]; done) rfl ⟨_, _, by rw [hcf.out], ?_, ?_⟩
        · rw [hcc.out]
          exact FlashOwn.mono (B := w.heap.size + 1 + 1) (C := w1.heap.size) (by repeat (first | with_reducible exact OW.out | with_reducible refine FlashOwn.drew ?_ | with_reducible refine FlashOwn.drewN ?_ _ | with_reducible refine FlashOwn.alloc ?_ _ | (with_reducible refine FlashOwn.below ?_ (by assumption)) | ((with_reducible refine FlashOwn.other ?_ ?_ _); rotate_left; (focus (first | omega | (simp; omega) | (simp; done)))))) (by omega) (by simp; omega)
        · exact (by repeat (first | with_reducible exact WW.out | with_reducible exact Below.refl _ _ | with_reducible refine below_drewN ?_ _ | with_reducible refine Below.drew ?_ | with_reducible refine Below.alloc ?_ ?_ _ | with_reducible refine Below.setCell ?_ ?_ _ | (with_reducible refine Below.next ?_ (by assumption)) | ((with_reducible refine Below.far' (by assumption) ?_ ?_ ?_); (focus (first | omega | (simp; omega) | (simp; done))); (focus (first | omega | (simp; omega) | (simp; done)))) | omega | (focus (simp; omega)) | (focus (simp; done))))
      · have hm0' : ((ms : Int) == 0) = false := by simp [hm0]
        have hcf : Hid (collectOk f = true) := Lib.hid (by unfold collectOk; rw [← HMS.out]; simpa using hm0)
        have hcc : Hid (collectF f = ⟨collectP f.pages bb, f.erases.set bb (f.erases.getD bb 0 + 1)⟩) := Lib.hid (by unfold collectF; rw [hcf.out, ← HBB.out]; rfl)
        clear hm0
        obtain ⟨lo, hlo⟩ : ∃ lo, lo = 4 * bb := ⟨_, rfl⟩
        obtain ⟨hi, hhi⟩ : ∃ hi, hi = 4 * bb + 4 := ⟨_, rfl⟩
        have e1 : (bb : Int) * 4 = (lo : Int) := by omega
        have e2 : ((bb : Int) + 1) * 4 = (hi : Int) := by omega
        have HLO := Lib.hid hlo
        have HHI := Lib.hid hhi
        have hlh : lo + 4 ≤ hi := by omega
        have hlh2 : hi ≤ lo + 4 := by omega
        have hhl : hi ≤ f.pages.length := by omega
        clear hlo hhi
        go_wp2
        go_loopw [11] (fun i wv => ∃ t : Nat, lo ≤ t ∧ t ≤ hi ∧ i = .int .i64 t ∧ GIn (w.heap.size + 1 + 1) w1.heap.size wa wv ∧ ∃ lk : List Pg, Hid (erasedTo f.pages lo t lk) ∧ (lk.length ≤ f.pages.length ∧ f.pages.length ≤ lk.length) ∧ FlashOwn (w.heap.size + 1 + 1) wv w1.heap.size [.slice A1 f.pages.length c1, .slice A2 f.erases.length c2] ⟨lk, f.erases⟩) (fun i _ => hi - (intOf i).toNat)
        case atStart => exact ⟨lo, Nat.le_refl _, by omega, rfl, GIn.refl _ _ _, f.pages, Lib.hid (erasedTo_start _ _), ⟨Nat.le_refl _, Nat.le_refl _⟩, OW.out⟩
        case round =>
          obtain ⟨t, ht1, ht2, rfl, hgi, lk, HLK, ⟨hlk1, hlk2⟩, hown⟩ := hrel
          obtain ⟨wv, hwv⟩ : ∃ x, x = wr := ⟨_, rfl⟩
          subst hwv
          have zg := hgi.size
          have S0 := Loc.gin P0 hgi (by omega)
          have SX := Loc.gin PXX hgi (by omega)
          obtain ⟨s0, s1, sf⟩ := S0.two
          obtain ⟨x0', x1', xf⟩ := SX.two
          have zX := SX.lt
          by_cases htl : t < hi
          · obtain ⟨g, rfl, hg1, hg2, hg3, -, hnc, hfz, hc1, hc2, hset, -⟩ := hown.page (k := t) (by simp only; omega)
            have HS := Lib.hid (hset freeP)
            clear hset
            go_wp2
            go_roundw
            case rel => exact ⟨t + 1, by omega, by omega, by go_num, (by repeat (first | with_reducible exact hgi | with_reducible refine GIn.drew ?_ | with_reducible refine GIn.drewN ?_ _ | with_reducible refine GIn.alloc ?_ _ | (with_reducible refine GIn.below ?_ (by assumption)) | ((with_reducible refine GIn.set ?_ ?_ ?_ _); rotate_left; (focus (first | omega | (simp; omega))); (focus (first | omega | (simp; omega)))) | ((with_reducible refine GIn.setNew ?_ ?_ _); rotate_left; (focus (first | omega | (simp; omega)))))), _, Lib.hid (erasedTo_step HLK.out ht1), ⟨by simp; omega, by simp; omega⟩, HS.out⟩
            case measure => simp [intOf]; omega
          · have hth : t = hi := by omega
            have hle : Hid (lk = erased f.pages bb) := Lib.hid (erasedTo_all hb4 (by have := HLK.out; rw [hth, HLO.out, HHI.out] at this; exact this))
            obtain ⟨g', rfl, hg1, hg2, hg3, -, hnc, hfz, hc1, hset⟩ := hown.erase (k := bb) (by simpa using hbl')
            simp only at hc1 hset
            have hbd := he0 _ (List.getElem_mem hbl')
            have hbd0 := HK.out.ers _ (List.getElem_mem hbl')
            have hget : Hid (f.erases.getD bb 0 = f.erases[bb]'hbl') := Lib.hid (by simp [hbl'])
            obtain ⟨ex, hex⟩ : ∃ ex, ex = f.erases[bb]'hbl' := ⟨_, rfl⟩
            rw [← hex] at hc1 hbd hbd0 hget
            obtain ⟨hbd0, _⟩ := hbd0
            have HS := Lib.hid (hset (ex + 1))
            clear hset hex
            have hrd := Lib.hid (FlashRd.pgs (FlashRd.below HR.out WW.out))
            obtain ⟨b, off, rfl, hbl⟩ : ∃ b off, A = some ⟨b, off, none⟩ ∧ b < w.heap.size := by
              obtain ⟨b, off, h, hb, _⟩ := (FlashRd.pgs HR.out).rPageS (k := lo) (by omega)
              exact ⟨b, off, h, hb⟩
            have hsl : Hid (Rd encPageS wa (some ⟨b, off + lo * 2, none⟩) (blockOf f.pages bb)) := Lib.hid (by unfold blockOf; rw [← HLO.out]; exact Rd.take (Rd.dropAt hrd.out lo) 4)
            have hbln := block_length hb4
            have HBL := Lib.hid hbln
            clear hbln
            go_wp2
            clear e1 e2 hc1 hth ht1 ht2 htl HLK
            have GI := Lib.hid (show GIn (w.heap.size + 1 + 1) w1.heap.size wa (wv.setCell ⟨g', bb, none⟩ (.int .i64 (ex + 1))) from (by repeat (first | with_reducible exact hgi | with_reducible refine GIn.drew ?_ | with_reducible refine GIn.drewN ?_ _ | with_reducible refine GIn.alloc ?_ _ | (with_reducible refine GIn.below ?_ (by assumption)) | ((with_reducible refine GIn.set ?_ ?_ ?_ _); rotate_left; (focus (first | omega | (simp; omega))); (focus (first | omega | (simp; omega)))) | ((with_reducible refine GIn.setNew ?_ ?_ _); rotate_left; (focus (first | omega | (simp; omega)))))))
            rw [hle.out] at HS
            have HS0 : Hid (FlashOwn (w.heap.size + 1 + 1) (wv.setCell ⟨g', bb, none⟩ (.int .i64 (ex + 1))) w1.heap.size [.slice A1 f.pages.length c1, .slice (some ⟨g', 0, none⟩) f.erases.length c2] ⟨putTo f.pages bb 0, f.erases.set bb (ex + 1)⟩) := HS
            clear HS hown hgi
            have hcapb : ∀ t, lo ≤ t → t < hi → t < c := fun t _ _ => by omega
            go_loopw [80] (fun i wx => ∃ j : Nat, j ≤ hi - lo ∧ i = .int .i64 j ∧ GIn (w.heap.size + 1 + 1) w1.heap.size wa wx ∧ FlashOwn (w.heap.size + 1 + 1) wx w1.heap.size [.slice A1 f.pages.length c1, .slice (some ⟨g', 0, none⟩) f.erases.length c2] ⟨putTo f.pages bb j, f.erases.set bb (ex + 1)⟩) (fun i _ => (hi - lo) - (intOf i).toNat)
            case atStart => exact ⟨0, Nat.zero_le _, rfl, GI.out, HS0.out⟩
            case round =>
              obtain ⟨j, hj, rfl, hgx, hown⟩ := hrel
              obtain ⟨wx, hwx⟩ : ∃ x, x = wr := ⟨_, rfl⟩
              subst hwx
              have zg2 := hgx.size
              have S0 := Loc.gin P0 hgx (by omega)
              have SX := Loc.gin PXX hgx (by omega)
              have S1 := Loc.gin P1 hgx (by omega)
              obtain ⟨s0, s1, sf⟩ := S0.two
              obtain ⟨x0', x1', xf⟩ := SX.two
              obtain ⟨v0, v1, vf⟩ := S1.two
              have zX := SX.lt
              have zS := S1.lt
              by_cases hjl : j < hi - lo
              · have hj4 : j < (blockOf f.pages bb).length := by rw [HBL.out]; omega
                have hrx : Rd encPageS wx (some ⟨b, off + lo * 2, none⟩) (blockOf f.pages bb) := hsl.out.keep fun b' o' hl hA o => by
                  cases hA
                  exact World.cell?_of_block (hgx.block b (by omega) (by omega))
                obtain ⟨b', off', hbe, hbl2, hcc, hcc2⟩ := hrx.rPageS hj4
                cases hbe
                have hyes := @putTo_yes f.pages bb j hj4
                have hno := @putTo_no f.pages bb j hj4
                obtain ⟨p, hp⟩ : ∃ p, p = (blockOf f.pages bb)[j]'hj4 := ⟨_, rfl⟩
                rw [← hp] at hcc hcc2 hyes hno
                clear hp
                obtain ⟨o, v⟩ := p
                simp only at hcc hcc2 hyes hno
                by_cases ho : 0 ≤ o
                · have hfree := putTo_free (l := f.pages) (b := bb) (j := j) (by omega)
                  obtain ⟨q, hq, hql, hqo⟩ := freeIx_ok hfree
                  have HQ : Hid (idx ((putTo f.pages bb j).map Pg.own) (-1) = (q : Int)) := Lib.hid hq
                  have HY : Hid (putTo f.pages bb (j + 1) = (putTo f.pages bb j).set q ⟨o, v⟩) := Lib.hid (by rw [hyes ho]; unfold put1; rw [hq]; rfl)
                  have hpl := putTo_length hb4 j
                  have HPL := Lib.hid hpl
                  have hql' : q < f.pages.length := by rw [← hpl]; exact hql
                  clear hyes hno hq hpl hqo
                  have HOWN := Lib.hid hown
                  clear hown
                  have hrdp : Hid (Rd encPageS wx A1 (putTo f.pages bb j)) := Lib.hid (by
                    have := FlashRd.pgs (x1 := .slice (some ⟨g', 0, none⟩) f.erases.length c2) (t := ⟨putTo f.pages bb j, f.erases.set bb (ex + 1)⟩) (A := A1) (c := c1) (w := wx) (by simpa [HPL.out] using HOWN.out.rd)
                    exact this)
                  have LP := Loc.newAt wx [.int .i64 o, .int .i64 v] 42 (b := wx.heap.size) rfl
                  obtain ⟨ga, rfl, hga1, hga2, hga3, -, -, -, -, -, -, -⟩ := HOWN.out.page (k := q) hql
                  go_wp2
                  go_region_held3 (fun w' => w'.cell? ⟨w1.heap.size, 0, none⟩ = some (.slice (some ⟨ga, 0, none⟩) f.pages.length c1) ∧ w'.cell? ⟨wx.heap.size, 0, none⟩ = some (.int .i64 o) ∧ w'.cell? ⟨wx.heap.size, 1, none⟩ = some (.int .i64 v)) (first | go_keep | (refine ⟨?_, ?_, ?_⟩ <;> assumption) | (refine ⟨?_, ?_, ?_⟩ <;> (simp [go_sem, *]; done)))
                    ((go_at_call 54; (with_reducible refine (pageOf_any _ f.pages.length c1 (putTo f.pages bb j) (-1) _ HPL.out (by repeat (first | with_reducible exact hrdp.out | with_reducible refine Rd.drew ?_ | with_reducible refine Rd.drewN ?_ _ | with_reducible refine Rd.alloc ?_ _ | (with_reducible refine Rd.below ?_ (by assumption)))) (by omega)).mono ?_); rw [HQ.out]; rintro e w3 ⟨rfl, hb3⟩; have LP3 := Loc.carryB LP (fun h => by ((repeat (first | with_reducible exact h | with_reducible refine Loc.drew ?_ | with_reducible refine Loc.drewN ?_ _ | with_reducible refine Loc.alloc ?_ _)); done)) hb3; have SX3 := Loc.carryB SX (fun h => by ((repeat (first | with_reducible exact h | with_reducible refine Loc.drew ?_ | with_reducible refine Loc.drewN ?_ _ | with_reducible refine Loc.alloc ?_ _)); done)) hb3; obtain ⟨d0, d1, df⟩ := LP3.two; obtain ⟨x0'', x1'', xf''⟩ := SX3.two; have zLP := LP3.lt; obtain ⟨ga', hgae, -, -, hga4, -, hnc3, hfz3, hca, hcb, hset3, -⟩ := (FlashOwn.below HOWN.out (Below.next (by repeat (first | with_reducible exact Below.refl _ _ | with_reducible refine below_drewN ?_ _ | with_reducible refine Below.drew ?_ | with_reducible refine Below.alloc ?_ ?_ _ | with_reducible refine Below.setCell ?_ ?_ _ | omega | (focus (simp; omega)) | (focus (simp; done)))) hb3)).page (k := q) hql; cases hgae; have HS3 := Lib.hid (hset3 ⟨o, v⟩); clear hset3))
                  all_goals
                    go_wp2
                    go_roundw
                    case rel => exact ⟨j + 1, by omega, by go_num, (by repeat (first | with_reducible exact hgx | with_reducible refine GIn.drew ?_ | with_reducible refine GIn.drewN ?_ _ | with_reducible refine GIn.alloc ?_ _ | (with_reducible refine GIn.below ?_ (by assumption)) | ((with_reducible refine GIn.set ?_ ?_ ?_ _); rotate_left; (focus (first | omega | (simp; omega))); (focus (first | omega | (simp; omega)))) | ((with_reducible refine GIn.setNew ?_ ?_ _); rotate_left; (focus (first | omega | (simp; omega)))))), by rw [HY.out]; exact HS3.out⟩
                    case measure => simp [intOf]; omega
                · have HN := Lib.hid (hno ho)
                  clear hyes hno
                  go_wp2
                  go_roundw
                  case rel => exact ⟨j + 1, by omega, by go_num, (by repeat (first | with_reducible exact hgx | with_reducible refine GIn.drew ?_ | with_reducible refine GIn.drewN ?_ _ | with_reducible refine GIn.alloc ?_ _ | (with_reducible refine GIn.below ?_ (by assumption)) | ((with_reducible refine GIn.set ?_ ?_ ?_ _); rotate_left; (focus (first | omega | (simp; omega))); (focus (first | omega | (simp; omega)))) | ((with_reducible refine GIn.setNew ?_ ?_ _); rotate_left; (focus (first | omega | (simp; omega)))))), by rw [HN.out]; exact FlashOwn.alloc hown _⟩
                  case measure => simp [intOf]; omega
              · have hpa : Hid (putTo f.pages bb j = collectP f.pages bb) := Lib.hid (putTo_all (by rw [HBL.out]; omega))
                have hown2 := hown
                rw [hpa.out] at hown2
                have HO2 := Lib.hid hown2
                have WX2 : Hid (Below w.heap.size w wx) := Lib.hid (Below.gin (D := w.heap.size) (a := w) WW.out hgx (by omega) (by omega))
                clear hown hown2
                go_wp2
                refine bodyPost_ret (v := .tuple #[.agg #[.slice A1 f.pages.length c1, .slice (some ⟨g', 0, none⟩) f.erases.length c2], .bool true]) (by simp [results, Try.results67, go_sem, *]; done) rfl ⟨_, _, by rw [hcf.out], ?_, ?_⟩
                · rw [hcc.out, hget.out]
                  exact FlashOwn.mono (B := w.heap.size + 1 + 1) (C := w1.heap.size) (by repeat (first | with_reducible exact HO2.out | with_reducible refine FlashOwn.drew ?_ | with_reducible refine FlashOwn.drewN ?_ _ | with_reducible refine FlashOwn.alloc ?_ _ | (with_reducible refine FlashOwn.below ?_ (by assumption)) | ((with_reducible refine FlashOwn.other ?_ ?_ _); rotate_left; (focus (first | omega | (simp; omega) | (simp; done)))))) (by omega) (by simp; omega)
                · exact (by repeat (first | with_reducible exact WX2.out | with_reducible exact Below.refl _ _ | with_reducible refine below_drewN ?_ _ | with_reducible refine Below.drew ?_ | with_reducible refine Below.alloc ?_ ?_ _ | with_reducible refine Below.setCell ?_ ?_ _ | (with_reducible refine Below.next ?_ (by assumption)) | ((with_reducible refine Below.far' (by assumption) ?_ ?_ ?_); (focus (first | omega | (simp; omega) | (simp; done))); (focus (first | omega | (simp; omega) | (simp; done)))) | omega | (focus (simp; omega)) | (focus (simp; done))))
end Go.Proofs.Ytnnanknljpkdeaa
