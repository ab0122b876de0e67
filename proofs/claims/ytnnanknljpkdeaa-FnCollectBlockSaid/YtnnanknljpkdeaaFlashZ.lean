/-
  Flash memories: collecting a block, the reference's way. Conditions: lengths at most 2^40.
-/
import Derived.Test.YtnnanknljpkdeaaBase
import Derived.Test.YtnnanknljpkdeaaNum
import Derived.Test.YtnnanknljpkdeaaInts
import Derived.Test.YtnnanknljpkdeaaApp
import Derived.Test.YtnnanknljpkdeaaIntsW
import Derived.Test.YtnnanknljpkdeaaLib
import Derived.Test.YtnnanknljpkdeaaSpares
import Derived.Test.YtnnanknljpkdeaaOwn
import Derived.Test.YtnnanknljpkdeaaPage
import Derived.Test.YtnnanknljpkdeaaFlash
import Derived.Test.YtnnanknljpkdeaaFlashM
import Derived.Test.YtnnanknljpkdeaaFlashC
import Derived.Test.YtnnanknljpkdeaaFlashD
import Derived.Test.YtnnanknljpkdeaaFlashV
import Derived.Test.YtnnanknljpkdeaaThinC
import Derived.Test.YtnnanknljpkdeaaFlashW
import Derived.Test.YtnnanknljpkdeaaFlashX
import Derived.StillTailTactics
namespace Go.Proofs.Ytnnanknljpkdeaa
open Go.RowKit
set_option maxHeartbeats 4000000 in
theorem l20Stale_c (x0 x1 : Value) (f : Fl) (k : Nat) (w : World) (h : FlashRd w [x0, x1] f) (hs : sizeFlash f ≤ 1099511627776) (hk : 4 * k + 4 ≤ f.pages.length) :
    Calls Try.prog 80 #[.agg #[x0, x1], .int .i64 k] w fun e w' => e = .returned (.int .i64 (staleAt f.pages k : Nat)) ∧ Below w.heap.size w w' := by
  obtain ⟨u, v, h1, ⟨A, c, rfl, ha, hc0, hm0, hn0⟩, ⟨A', c', rfl, hp, hc1, hm1, hn1⟩⟩ := h
  simp only [List.cons.injEq, and_true] at h1
  obtain ⟨rfl, rfl⟩ := h1
  unfold sizeFlash at hs
  have hbl := block_length hk
  have HBL := Lib.hid hbl
  obtain ⟨lo, hlo⟩ : ∃ lo, lo = 4 * k := ⟨_, rfl⟩
  have e1 : (k : Int) * 4 = (lo : Int) := by omega
  have HLO := Lib.hid hlo
  clear hbl
  go_enter Try.func80, Try.ntmps80
  go_wp2
  go_loop [5, 6] (fun st i => ∃ j : Nat, j ≤ 4 ∧ i = .int .i64 j ∧ st = .int .i64 (staleN ((blockOf f.pages k).take j) : Nat)) (fun _ i => 4 - (intOf i).toNat)
  case atStart => exact ⟨0, by omega, rfl, rfl⟩
  case round =>
    obtain ⟨j, hj, rfl, rfl⟩ := hrel
    by_cases hjl : j < 4
    · have hj4 : j < (blockOf f.pages k).length := by rw [HBL.out]; omega
      obtain ⟨b, off, rfl, hbl, hcc, -⟩ := ha.rPageS (k := lo + j) (by omega)
      have hge := block_get hlo hj4 (by omega)
      have HS := Lib.hid (staleN_take hj4)
      have hsle := staleN_le ((blockOf f.pages k).take j)
      have htl : ((blockOf f.pages k).take j).length ≤ j := by rw [List.length_take]; omega
      rw [← hge] at hcc
      obtain ⟨o, hoe⟩ : ∃ o, o = ((blockOf f.pages k)[j]'hj4).own := ⟨_, rfl⟩
      rw [← hoe] at hcc HS
      clear hoe hge hlo
      have e2 : (lo : Int) + (j : Int) = ((lo + j : Nat) : Int) := by omega
      obtain ⟨q, hq⟩ : ∃ q, q = lo + j := ⟨_, rfl⟩
      rw [← hq] at hcc e2
      have hql : q < f.pages.length := by omega
      clear hq
      cases hst : (o == -2)
      · have hne : ¬ o = -2 := by simpa using hst
        go_wp2
        go_round
        case rel => exact ⟨j + 1, by omega, by go_num, by rw [HS.out, if_neg hne]; rfl⟩
        case measure => simp [intOf]; omega
      · have hne : o = -2 := by simpa using hst
        have HNE := Lib.hid hne
        clear hne
        go_wp2
        go_round
        case rel => exact ⟨j + 1, by omega, by go_num, by rw [HS.out, if_pos HNE.out]; go_num⟩
        case measure => simp [intOf]; omega
    · have hs1 : Hid (staleN ((blockOf f.pages k).take j) = staleAt f.pages k) := Lib.hid (by rw [List.take_of_length_le (by rw [HBL.out]; omega)]; rfl)
      rw [hs1.out]
      go_wp2
      go_ret
      exact ⟨rfl, (by repeat (first | with_reducible exact Below.refl _ _ | with_reducible assumption | with_reducible refine below_drewN ?_ _ | with_reducible refine Below.drew ?_ | with_reducible refine Below.alloc ?_ ?_ _ | with_reducible refine Below.setCell ?_ ?_ _ | (with_reducible refine Below.next ?_ (by assumption)) | omega | (focus (simp; omega)) | (focus (simp; done))))⟩
def keptTo (l : List Pg) (b j : Nat) : List Pg := live ((blockOf l b).take j)
theorem keptTo_yes {l : List Pg} {b j : Nat} (hj : j < (blockOf l b).length) (h : 0 ≤ (blockOf l b)[j].own) : keptTo l b (j + 1) = keptTo l b j ++ [(blockOf l b)[j]] := by
  unfold keptTo
  rw [List.take_succ_eq_append_getElem hj, live_append]
  have : live [(blockOf l b)[j]] = [(blockOf l b)[j]] := by simp [live, h]
  rw [this]
theorem keptTo_no {l : List Pg} {b j : Nat} (hj : j < (blockOf l b).length) (h : ¬ 0 ≤ (blockOf l b)[j].own) : keptTo l b (j + 1) = keptTo l b j := by
  unfold keptTo
  rw [List.take_succ_eq_append_getElem hj, live_append]
  have : live [(blockOf l b)[j]] = [] := by simp [live, h]
  rw [this, List.append_nil]
theorem keptTo_le (l : List Pg) (b j : Nat) : (keptTo l b j).length ≤ j := by
  unfold keptTo live
  have := List.length_filter_le (fun p : Pg => decide (0 ≤ p.own)) ((blockOf l b).take j)
  rw [List.length_take] at this
  omega
theorem keptTo_all {l : List Pg} {b j : Nat} (hj : (blockOf l b).length ≤ j) : keptTo l b j = live (blockOf l b) := by unfold keptTo; rw [List.take_of_length_le hj]
/-- the first j kept pages, written -/
def putK (l : List Pg) (b j : Nat) : List Pg := ((live (blockOf l b)).take j).foldl put1 (erased l b)
theorem putK_succ {l : List Pg} {b j : Nat} (hj : j < (live (blockOf l b)).length) : putK l b (j + 1) = put1 (putK l b j) (live (blockOf l b))[j] := by
  unfold putK; rw [List.take_succ_eq_append_getElem hj, List.foldl_append]; rfl
theorem putK_all {l : List Pg} {b j : Nat} (hj : (live (blockOf l b)).length ≤ j) : putK l b j = collectP l b := by
  unfold putK collectP; rw [List.take_of_length_le hj]
theorem putK_length {l : List Pg} {b : Nat} (hb : 4 * b + 4 ≤ l.length) (j : Nat) : (putK l b j).length = l.length := by
  unfold putK; rw [foldl_put1_length, erased_length hb]
theorem live_block_le (l : List Pg) (b : Nat) : (live (blockOf l b)).length ≤ 4 := by
  unfold live
  have := List.length_filter_le (fun p : Pg => decide (0 ≤ p.own)) (blockOf l b)
  have h2 : (blockOf l b).length ≤ 4 := by unfold blockOf; rw [List.length_take]; omega
  omega
theorem putK_free {l : List Pg} {b j : Nat} (hj : j < (live (blockOf l b)).length) : 0 < freeN (putK l b j) := by
  have h1 := @erased_free l b
  have h3 := live_block_le l b
  have h2 : ((live (blockOf l b)).take j).length = j := by rw [List.length_take]; omega
  have := (foldl_put1 ((live (blockOf l b)).take j) (erased l b) (by omega) (fun p hp => by simpa using (List.mem_filter.1 (List.mem_of_mem_take hp)).2)).2.1
  unfold putK
  omega
set_option maxHeartbeats 8000000 in
theorem l20Collect_c (X : Nat) (A1 A2 : Option Addr) (c1 c2 : Nat) (f : Fl) (B C : Nat) (w : World) (LX : Loc w X [.slice A1 f.pages.length c1, .slice A2 f.erases.length c2]) (hown : FlashOwn B w C [.slice A1 f.pages.length c1, .slice A2 f.erases.length c2] f)
    (hX : X < B ∨ C ≤ X) (hC : C ≤ w.heap.size) (hs : sizeFlash f ≤ 1099511627776) (ok : FlashOk f) (he0 : ∀ x ∈ f.erases, x ≤ 1000000) :
    Calls Try.prog 69 #[.pointer (some ⟨X, 0, none⟩)] w fun e w' => e = .returned (.bool (collectOk f)) ∧ FlashOwn B w' C [.slice A1 f.pages.length c1, .slice A2 f.erases.length c2] (collectF f) ∧ GIn B C w w' := by
  have HK := Lib.hid ok
  have n2 := ok.n2
  have n6 := ok.n6
  have lenA : f.pages.length ≤ f.erases.length * 4 := by rw [ok.len]; exact Nat.le_refl _
  have lenB : f.erases.length * 4 ≤ f.pages.length := by rw [ok.len]; exact Nat.le_refl _
  clear ok
  have HO := Lib.hid hown
  clear hown
  obtain ⟨x0, x1, xf⟩ := LX.two
  have zX0 := LX.lt
  go_enter Try.func69, Try.ntmps69
  go_wp2
  go_loopw [3, 4] (fun best i wr => ∃ k : Nat, 1 ≤ k ∧ k ≤ f.erases.length ∧ i = .int .i64 k ∧ best = .int .i64 (bestK f.pages k : Nat) ∧ Below w.heap.size w wr) (fun _ i _ => f.erases.length - (intOf i).toNat)
  case atStart => exact ⟨1, Nat.le_refl _, by omega, rfl, by simp [bestK], Below.refl _ _⟩
  case round =>
    obtain ⟨k, hk1, hk, rfl, rfl, hbw⟩ := hrel
    obtain ⟨wa, hwa⟩ : ∃ x, x = wr := ⟨_, rfl⟩
    subst hwa
    have zz := hbw.size
    have SX := Loc.below LX hbw
    obtain ⟨p0, p1, pf⟩ := SX.two
    have zS := SX.lt
    have hbk := bestK_lt f.pages k (by omega)
    have HOa := Lib.hid (FlashOwn.below HO.out hbw)
    by_cases hlt : k < f.erases.length
    · have hsl1 := staleAt_le f.pages k
      have hsl2 := staleAt_le f.pages (bestK f.pages k)
      have hsu : Hid (bestK f.pages (k + 1) = if staleAt f.pages (bestK f.pages k) < staleAt f.pages k then k else bestK f.pages k) := Lib.hid rfl
      obtain ⟨bk, hbke⟩ : ∃ bk, bk = bestK f.pages k := ⟨_, rfl⟩
      rw [← hbke] at hbk hsl2 hsu
      rw [← hbke]
      clear hbke
      by_cases hgt : staleAt f.pages bk < staleAt f.pages k
      all_goals
        go_wp2
        go_region_held3 (fun w' => w'.cell? ⟨X, 0, none⟩ = some (.slice A1 f.pages.length c1) ∧ w'.cell? ⟨X, 1, none⟩ = some (.slice A2 f.erases.length c2)) (first | go_keep | (refine ⟨?_, ?_⟩ <;> assumption) | (refine ⟨?_, ?_⟩ <;> (simp [go_sem, *]; done)))
          ((go_at_call 80; (with_reducible refine (l20Stale_c _ _ f _ _ ?_ hs ?_).mono ?_); (focus (exact FlashOwn.rd (B := B) (C := C) (by repeat (first | with_reducible exact HOa.out | with_reducible refine FlashOwn.drew ?_ | with_reducible refine FlashOwn.drewN ?_ _ | with_reducible refine FlashOwn.alloc ?_ _ | (with_reducible refine FlashOwn.below ?_ (by assumption)) | ((with_reducible refine FlashOwn.other ?_ ?_ _); rotate_left; (focus (first | omega | (simp; omega) | (simp; done)))))))); (focus omega); rintro e w9 ⟨rfl, hb9⟩; replace SX := Loc.carryB SX (fun h => by ((repeat (first | with_reducible exact h | with_reducible refine Loc.drew ?_ | with_reducible refine Loc.drewN ?_ _ | with_reducible refine Loc.alloc ?_ _)); done)) hb9; obtain ⟨d0, d1, df⟩ := SX.two; replace HOa := Lib.hid (FlashOwn.below HOa.out (Below.next (by repeat (first | with_reducible exact Below.refl _ _ | with_reducible refine below_drewN ?_ _ | with_reducible refine Below.drew ?_ | with_reducible refine Below.alloc ?_ ?_ _ | with_reducible refine Below.setCell ?_ ?_ _ | omega | (focus (simp; omega)) | (focus (simp; done)))) hb9)); replace hbw := Below.next (W := w) (by repeat (first | with_reducible exact hbw | with_reducible exact Below.refl _ _ | with_reducible refine below_drewN ?_ _ | with_reducible refine Below.drew ?_ | with_reducible refine Below.alloc ?_ ?_ _ | with_reducible refine Below.setCell ?_ ?_ _ | (with_reducible refine Below.next ?_ (by assumption)) | ((with_reducible refine Below.far' (by assumption) ?_ ?_ ?_); (focus (first | omega | (simp; omega) | (simp; done))); (focus (first | omega | (simp; omega) | (simp; done)))) | omega | (focus (simp; omega)) | (focus (simp; done)))) hb9))
      · go_wp2
        go_roundw
        case rel => exact ⟨k + 1, by omega, by omega, by go_num, by rw [hsu.out, if_pos hgt], hbw⟩
        case measure => simp [intOf]; omega
      · go_wp2
        go_roundw
        case rel => exact ⟨k + 1, by omega, by omega, by go_num, by rw [hsu.out, if_neg hgt], hbw⟩
        case measure => simp [intOf]; omega
    · have hkn : k = f.erases.length := by omega
      have hb4 := HK.out.best
      have hbe : Hid (bestK f.pages k = bestB f) := Lib.hid (by unfold bestB; rw [hkn])
      have hms4 := staleAt_le f.pages (bestB f)
      have hbl' : bestB f < f.erases.length := bestK_lt f.pages f.erases.length (by omega)
      rw [hbe.out]
      obtain ⟨bb, hbb⟩ : ∃ bb, bb = bestB f := ⟨_, rfl⟩
      have HBB := Lib.hid hbb
      rw [← hbb]
      rw [← hbb] at hb4 hbl' hms4
      clear hbb hkn hbk
      obtain ⟨ms, hmse⟩ : ∃ ms, ms = staleAt f.pages bb := ⟨_, rfl⟩
      have HMS := Lib.hid hmse
      rw [← hmse] at hms4
      clear hmse
      go_wp2_with fail
      refine (l20Stale_c _ _ f bb _ (FlashOwn.rd HOa.out) hs hb4).mono ?_
      rw [← HMS.out]
      rintro e w9 ⟨rfl, hb9⟩
      replace SX := Loc.carryB SX (fun h => by ((repeat (first | with_reducible exact h | with_reducible refine Loc.drew ?_ | with_reducible refine Loc.drewN ?_ _ | with_reducible refine Loc.alloc ?_ _)); done)) hb9
      replace HOa := Lib.hid (FlashOwn.below HOa.out hb9)
      replace hbw := Below.next (W := w) hbw hb9
      obtain ⟨d0, d1, df⟩ := SX.two
      clear hb9 p0 p1 pf
      have zz9 := hbw.size
      by_cases hm0 : ms = 0
      · have hm0' : ((ms : Int) == 0) = true := by simp [hm0]
        have hcf : Hid (collectOk f = false) := Lib.hid (by unfold collectOk; rw [← HBB.out, ← HMS.out, hm0]; rfl)
        have hcc : Hid (collectF f = f) := Lib.hid (by unfold collectF; rw [hcf.out]; rfl)
        clear hm0
        go_wp2
        go_ret
        refine ⟨ret_bool hcf.out.symm, ?_, GIn.of_below hbw⟩
        rw [hcc.out]; exact HOa.out
      · have hm0' : ((ms : Int) == 0) = false := by simp [hm0]
        have hcf : Hid (collectOk f = true) := Lib.hid (by unfold collectOk; rw [← HBB.out, ← HMS.out]; simpa using hm0)
        have hcc : Hid (collectF f = ⟨collectP f.pages bb, f.erases.set bb (f.erases.getD bb 0 + 1)⟩) := Lib.hid (by unfold collectF; rw [hcf.out, ← HBB.out]; rfl)
        clear hm0
        obtain ⟨lo, hlo⟩ : ∃ lo, lo = 4 * bb := ⟨_, rfl⟩
        obtain ⟨hi, hhi⟩ : ∃ hi, hi = 4 * bb + 4 := ⟨_, rfl⟩
        have e1 : (bb : Int) * 4 = (lo : Int) := by omega
        have e2 : ((bb : Int) + 1) * 4 = (hi : Int) := by omega
        have HLO := Lib.hid hlo
        have HHI := Lib.hid hhi
        have hlh : lo + 4 ≤ hi := by omega
        have hlh2 : hi ≤ lo + 4 := by omega
        have hhl : hi ≤ f.pages.length := by omega
        have hbln := block_length hb4
        have HBL := Lib.hid hbln
        clear hlo hhi hbln
        go_wp2
        have hz0 : w.heap.size ≤ w9.heap.size := zz9
        go_loopw [5, 6] (fun kp i wv => ∃ t : Nat, lo ≤ t ∧ t ≤ hi ∧ i = .int .i64 t ∧ GIn B C w wv ∧ (∃ lk : List Pg, Hid (erasedTo f.pages lo t lk) ∧ (lk.length ≤ f.pages.length ∧ f.pages.length ≤ lk.length) ∧ FlashOwn B wv C [.slice A1 f.pages.length c1, .slice A2 f.erases.length c2] ⟨lk, f.erases⟩) ∧
            ∃ A3 c3 g3, ∃ kl : List Pg, kp = .slice A3 kl.length c3 ∧ Hid (kl = keptTo f.pages bb (t - lo)) ∧ kl.length ≤ t - lo ∧ w.heap.size ≤ g3 ∧ Row encPageS wv g3 tyPageS A3 c3 kl) (fun _ i _ => hi - (intOf i).toNat)
        case atStart => exact ⟨lo, Nat.le_refl _, by omega, rfl, (by repeat (first | with_reducible exact GIn.of_below hbw | with_reducible refine GIn.drew ?_ | with_reducible refine GIn.drewN ?_ _ | with_reducible refine GIn.alloc ?_ _ | (with_reducible refine GIn.below ?_ (by assumption)) | ((with_reducible refine GIn.set ?_ ?_ ?_ _); rotate_left; (focus (first | omega | (simp; omega))); (focus (first | omega | (simp; omega)))) | ((with_reducible refine GIn.setNew ?_ ?_ _); rotate_left; (focus (first | omega | (simp; omega)))))), ⟨f.pages, Lib.hid (erasedTo_start _ _), ⟨Nat.le_refl _, Nat.le_refl _⟩, FlashOwn.alloc HOa.out _⟩, _, _, w9.heap.size, [], rfl, Lib.hid (by simp [keptTo, live]), by simp, by omega, (by repeat (first | ((with_reducible refine Row.made0 ?_); (focus (first | with_reducible rfl | omega | (simp; omega) | (simp; done)))) | with_reducible refine Row.drew ?_ | with_reducible refine Row.drewN ?_ _ | with_reducible refine Row.alloc ?_ _ | (with_reducible refine Row.below ?_ (by assumption))))⟩
        case round =>
          obtain ⟨t, ht1, ht2, rfl, hgi, ⟨lk, HLK, ⟨hlk1, hlk2⟩, hown⟩, A3, c3, g3, kl, rfl, HKL, hkl, hg3, hrow⟩ := hrel
          obtain ⟨wv, hwv⟩ : ∃ x, x = wr := ⟨_, rfl⟩
          subst hwv
          have zg := hgi.size
          have SV := Loc.gin LX hgi hX
          obtain ⟨v0, v1, vf⟩ := SV.two
          have zV := SV.lt
          by_cases htl : t < hi
          · have hj4 : t - lo < (blockOf f.pages bb).length := by rw [HBL.out]; omega
            have hge := block_get (j := t - lo) HLO.out hj4 (by omega)
            have hlkt : Hid (∀ (h : t < lk.length) (h' : t < f.pages.length), lk[t] = f.pages[t]) := Lib.hid fun h h' => by rw [HLK.out.2 t h h', if_neg (by omega)]
            obtain ⟨g, rfl, hg1, hg2, hg4, -, hnc, hfz, hc1, hc2, hset, -⟩ := hown.page (k := t) (by simp only; omega)
            simp only at hc1 hc2 hset
            have HS := Lib.hid (hset freeP)
            have htf : t < f.pages.length := by omega
            have htk : t < lk.length := by omega
            have hel : lk[t]'htk = (blockOf f.pages bb)[t - lo]'hj4 := by
              rw [hlkt.out htk htf, hge]; congr 1; omega
            have hyes := @keptTo_yes f.pages bb (t - lo) hj4
            have hno := @keptTo_no f.pages bb (t - lo) hj4
            have hsub : Hid (t + 1 - lo = t - lo + 1) := Lib.hid (by omega)
            rw [hel] at hc1 hc2
            obtain ⟨p, hp⟩ : ∃ p, p = (blockOf f.pages bb)[t - lo]'hj4 := ⟨_, rfl⟩
            rw [← hp] at hc1 hc2 hyes hno
            clear hp hel hge hset hlkt
            obtain ⟨o, v⟩ := p
            simp only at hc1 hc2 hyes hno
            have HROW := Lib.hid hrow
            clear hrow
            have hgg3 : g ≠ g3 := by omega
            by_cases ho : 0 ≤ o
            · have HY := Lib.hid (hyes ho)
              have hlit : Hid (Rd encPageS (wv.alloc (.cells #[.int .i64 o, .int .i64 v] 42)) (some ⟨wv.heap.size, 0, none⟩) [⟨o, v⟩]) := Lib.hid (Rd.lit rfl rfl)
              have HOV := Lib.hid hown
              clear hyes hno hown
              go_wp2_with (at_builtin; refine wpList_append_row rfl _ _ rfl elPageS rfl (Row.alloc HROW.out _) _ _ [(⟨o, v⟩ : Pg)] rfl hlit.out (by simp only [maxLen, List.length_cons, List.length_nil]; omega) (by simp only [List.length_cons, List.length_nil]; omega) ?_; intro A4 c4 g4 w4 l4 hl4 hle1 hle2 hrow4 hg4' hgg4; have SV4 := Loc.carry SV (fun h => by ((repeat (first | with_reducible exact h | with_reducible refine Loc.drew ?_ | with_reducible refine Loc.drewN ?_ _ | with_reducible refine Loc.alloc ?_ _)); done)) hg4' (by omega); obtain ⟨s0, s1, sf⟩ := SV4.two; have zS4 := SV4.lt; obtain ⟨gz, hgz, -, -, hg5, -, -, hfz4, hca4, hcb4, hset4, -⟩ := (FlashOwn.gin (FlashOwn.alloc HOV.out _) (GIn.of_grown hg4' (Nat.le_refl _) (Nat.lt_succ_self _)) (by omega)).page (k := t) htk; cases hgz; simp only at hca4 hcb4; have HS4 := Lib.hid (hset4 freeP); clear hset4)
              have GI4 : Hid (GIn B C w w4) := Lib.hid (GIn.grownNew (GIn.alloc hgi _) hg4' hg3)
              have hz4 := hg4'.size
              simp at hz4 hgg4 hle1 hle2
              have HR4 := Lib.hid hrow4
              clear hg4' hrow4
              go_roundw
              case rel => exact ⟨t + 1, by omega, by omega, by go_num, (by repeat (first | with_reducible exact GI4.out | with_reducible refine GIn.drew ?_ | with_reducible refine GIn.drewN ?_ _ | with_reducible refine GIn.alloc ?_ _ | (with_reducible refine GIn.below ?_ (by assumption)) | ((with_reducible refine GIn.set ?_ ?_ ?_ _); rotate_left; (focus (first | omega | (simp; omega))); (focus (first | omega | (simp; omega)))) | ((with_reducible refine GIn.setNew ?_ ?_ _); rotate_left; (focus (first | omega | (simp; omega)))))), ⟨_, Lib.hid (erasedTo_step HLK.out ht1), ⟨by simp; omega, by simp; omega⟩, HS4.out⟩, A4, c4, g4, l4, rfl, Lib.hid (by rw [hl4.out, hsub.out, HY.out, HKL.out]), by omega, by omega, (by repeat (first | with_reducible exact HR4.out | with_reducible refine Row.drew ?_ | with_reducible refine Row.drewN ?_ _ | with_reducible refine Row.alloc ?_ _ | (with_reducible refine Row.below ?_ (by assumption)) | ((with_reducible refine Row.other ?_ ?_ _); rotate_left; (focus (first | omega | (simp; omega) | (simp; done)))) | ((with_reducible refine Row.far' (by assumption) ?_ ?_); (focus (first | omega | (simp; omega) | (simp; done))))))⟩
              case measure => simp [intOf]; omega
            · have HN := Lib.hid (hno ho)
              clear hyes hno
              go_wp2
              go_roundw
              case rel => exact ⟨t + 1, by omega, by omega, by go_num, (by repeat (first | with_reducible exact hgi | with_reducible refine GIn.drew ?_ | with_reducible refine GIn.drewN ?_ _ | with_reducible refine GIn.alloc ?_ _ | (with_reducible refine GIn.below ?_ (by assumption)) | ((with_reducible refine GIn.set ?_ ?_ ?_ _); rotate_left; (focus (first | omega | (simp; omega))); (focus (first | omega | (simp; omega)))) | ((with_reducible refine GIn.setNew ?_ ?_ _); rotate_left; (focus (first | omega | (simp; omega)))))), ⟨_, Lib.hid (erasedTo_step HLK.out ht1), ⟨by simp; omega, by simp; omega⟩, HS.out⟩, A3, c3, g3, kl, rfl, Lib.hid (by rw [hsub.out, HN.out]; exact HKL.out), by omega, hg3, (by repeat (first | with_reducible exact HROW.out | with_reducible refine Row.drew ?_ | with_reducible refine Row.drewN ?_ _ | with_reducible refine Row.alloc ?_ _ | (with_reducible refine Row.below ?_ (by assumption)) | ((with_reducible refine Row.other ?_ ?_ _); rotate_left; (focus (first | omega | (simp; omega) | (simp; done)))) | ((with_reducible refine Row.far' (by assumption) ?_ ?_); (focus (first | omega | (simp; omega) | (simp; done))))))⟩
              case measure => simp [intOf]; omega
          · have hth : t = hi := by omega
            have hle : Hid (lk = erased f.pages bb) := Lib.hid (erasedTo_all hb4 (by have := HLK.out; rw [hth, HLO.out, HHI.out] at this; exact this))
            have hkle : Hid (kl = live (blockOf f.pages bb)) := Lib.hid (by rw [HKL.out]; exact keptTo_all (by rw [HBL.out]; omega))
            obtain ⟨g', rfl, hg1, hg2, hg4, -, hnc, hfz, hc1, hset⟩ := hown.erase (k := bb) (by simpa using hbl')
            simp only at hc1 hset
            have hbd := he0 _ (List.getElem_mem hbl')
            have hbd0 := HK.out.ers _ (List.getElem_mem hbl')
            have hget : Hid (f.erases.getD bb 0 = f.erases[bb]'hbl') := Lib.hid (by simp [hbl'])
            obtain ⟨ex, hex⟩ : ∃ ex, ex = f.erases[bb]'hbl' := ⟨_, rfl⟩
            rw [← hex] at hc1 hbd hbd0 hget
            obtain ⟨hbd0, _⟩ := hbd0
            have HS := Lib.hid (hset (ex + 1))
            have hrow' := Lib.hid hrow
            have hkl4 := live_block_le f.pages bb
            rw [← hkle.out] at hkl4
            rw [hle.out] at HS
            have HS0 : Hid (FlashOwn B (wv.setCell ⟨g', bb, none⟩ (.int .i64 (ex + 1))) C [.slice A1 f.pages.length c1, .slice (some ⟨g', 0, none⟩) f.erases.length c2] ⟨putK f.pages bb 0, f.erases.set bb (ex + 1)⟩) := HS
            have hXg : X ≠ g' := by omega
            clear hset hex HS hrow hown
            go_wp2
            clear e1 e2 hth htl
            go_still_tail 14, (by kernel_rfl)
            change wpList _ _ _ _ _ wv.drew
            go_wp2
            clear hc1
            go_loopw [7] (fun i wx => ∃ k : Nat, k ≤ kl.length ∧ i = .int .i64 k ∧ GIn B C w wx ∧ FlashOwn B wx C [.slice A1 f.pages.length c1, .slice (some ⟨g', 0, none⟩) f.erases.length c2] ⟨putK f.pages bb k, f.erases.set bb (ex + 1)⟩ ∧ Row encPageS wx g3 tyPageS A3 c3 kl) (fun i _ => kl.length - (intOf i).toNat)
            case atStart => exact ⟨0, Nat.zero_le _, rfl, (by repeat (first | with_reducible exact hgi | with_reducible refine GIn.drew ?_ | with_reducible refine GIn.drewN ?_ _ | with_reducible refine GIn.alloc ?_ _ | (with_reducible refine GIn.below ?_ (by assumption)) | ((with_reducible refine GIn.set ?_ ?_ ?_ _); rotate_left; (focus (first | omega | (simp; omega))); (focus (first | omega | (simp; omega)))) | ((with_reducible refine GIn.setNew ?_ ?_ _); rotate_left; (focus (first | omega | (simp; omega)))))), HS0.out, (by repeat (first | with_reducible exact hrow'.out | with_reducible refine Row.drew ?_ | with_reducible refine Row.drewN ?_ _ | with_reducible refine Row.alloc ?_ _ | (with_reducible refine Row.below ?_ (by assumption)) | ((with_reducible refine Row.other ?_ ?_ _); rotate_left; (focus (first | omega | (simp; omega) | (simp; done)))) | ((with_reducible refine Row.far' (by assumption) ?_ ?_); (focus (first | omega | (simp; omega) | (simp; done))))))⟩
            case round =>
              obtain ⟨j, hj, rfl, hgx, hown, hrow⟩ := hrel
              obtain ⟨wx, hwx⟩ : ∃ x, x = wr := ⟨_, rfl⟩
              subst hwx
              have zg2 := hgx.size
              have SX9 := Loc.gin LX hgx hX
              obtain ⟨s0, s1, sf⟩ := SX9.two
              have zX9 := SX9.lt
              by_cases hjl : j < kl.length
              · obtain ⟨rfl, hgl3, hfz3, hkc⟩ := hrow.rPageS (by omega)
                obtain ⟨hk1c, hk2c⟩ := hkc j hjl
                have hjv : j < (live (blockOf f.pages bb)).length := by rw [← hkle.out]; exact hjl
                have hfree := putK_free hjv
                have hsucc := putK_succ hjv
                have hkj : Hid ((live (blockOf f.pages bb))[j]'hjv = kl[j]'hjl) := Lib.hid (by simp only [hkle.out])
                obtain ⟨q, hq, hql, hqo⟩ := freeIx_ok hfree
                have HQ : Hid (idx ((putK f.pages bb j).map Pg.own) (-1) = (q : Int)) := Lib.hid hq
                rw [hkj.out] at hsucc
                obtain ⟨p, hp⟩ : ∃ p, p = kl[j]'hjl := ⟨_, rfl⟩
                rw [← hp] at hk1c hk2c hsucc
                have HY : Hid (putK f.pages bb (j + 1) = (putK f.pages bb j).set q p) := Lib.hid (by rw [hsucc]; unfold put1; rw [hq]; rfl)
                have hpl := putK_length hb4 j
                have HPL := Lib.hid hpl
                have hql' : q < f.pages.length := by rw [← hpl]; exact hql
                have hsz : Hid (sizeFlash ⟨putK f.pages bb j, f.erases.set bb (ex + 1)⟩ ≤ 1099511627776) := Lib.hid (by unfold sizeFlash; simp only [List.length_set]; omega)
                clear hsucc hq hpl hqo hkc hp hkj
                obtain ⟨o, v⟩ := p
                simp only at hk1c hk2c
                have HOWN := Lib.hid hown
                have HROW := Lib.hid hrow
                clear hown hrow
                obtain ⟨ga, rfl, hga1, hga2, hga3, -, -, -, -, -, -, -⟩ := HOWN.out.page (k := q) hql
                go_wp2
                go_region_held3 (fun w' => w'.cell? ⟨X, 0, none⟩ = some (.slice (some ⟨ga, 0, none⟩) f.pages.length c1) ∧ w'.cell? ⟨X, 1, none⟩ = some (.slice (some ⟨g', 0, none⟩) f.erases.length c2) ∧ w'.cell? ⟨g3, j * 2, none⟩ = some (.int .i64 o) ∧ w'.cell? ⟨g3, j * 2 + 1, none⟩ = some (.int .i64 v)) (first | go_keep | (refine ⟨?_, ?_, ?_, ?_⟩ <;> assumption) | (refine ⟨?_, ?_, ?_, ?_⟩ <;> (simp [go_sem, *]; done)))
                  ((go_at_call 64; (with_reducible refine (l20Find_c _ _ ⟨putK f.pages bb j, f.erases.set bb (ex + 1)⟩ (-1) _ (FlashRd.below (FlashOwn.rd HOWN.out) (by repeat (first | with_reducible exact Below.refl _ _ | with_reducible refine below_drewN ?_ _ | with_reducible refine Below.drew ?_ | with_reducible refine Below.alloc ?_ ?_ _ | with_reducible refine Below.setCell ?_ ?_ _ | omega | (focus (simp; omega)) | (focus (simp; done))))) hsz.out).mono ?_); rw [HQ.out]; rintro e w3 ⟨rfl, hb3⟩; have SX3 := Loc.carryB SX9 (fun h => by ((repeat (first | with_reducible exact h | with_reducible refine Loc.drew ?_ | with_reducible refine Loc.drewN ?_ _ | with_reducible refine Loc.alloc ?_ _)); done)) hb3; obtain ⟨x0'', x1'', xf''⟩ := SX3.two; have HROW3 := Lib.hid (Row.below HROW.out (Below.next (by repeat (first | with_reducible exact Below.refl _ _ | with_reducible refine below_drewN ?_ _ | with_reducible refine Below.drew ?_ | with_reducible refine Below.alloc ?_ ?_ _ | with_reducible refine Below.setCell ?_ ?_ _ | omega | (focus (simp; omega)) | (focus (simp; done)))) hb3)); obtain ⟨-, hgl3', -, hkc3⟩ := HROW3.out.rPageS (by omega); have hkx := (hkc3 j hjl).1; obtain ⟨hbc3, -⟩ := bcell (Below.next (W := wx) (by repeat (first | with_reducible exact Below.refl _ _ | with_reducible refine below_drewN ?_ _ | with_reducible refine Below.drew ?_ | with_reducible refine Below.alloc ?_ ?_ _ | with_reducible refine Below.setCell ?_ ?_ _ | omega | (focus (simp; omega)) | (focus (simp; done)))) hb3); have hkd1 := (hbc3 g3 (j * 2) hgl3).trans hk1c; have hkd2 := (hbc3 g3 (j * 2 + 1) hgl3).trans hk2c; clear hkx hkc3 hbc3; obtain ⟨ga', hgae, -, -, hga4, -, hnc3, hfz3', hca, hcb, hset3, -⟩ := (FlashOwn.below HOWN.out (Below.next (by repeat (first | with_reducible exact Below.refl _ _ | with_reducible refine below_drewN ?_ _ | with_reducible refine Below.drew ?_ | with_reducible refine Below.alloc ?_ ?_ _ | with_reducible refine Below.setCell ?_ ?_ _ | omega | (focus (simp; omega)) | (focus (simp; done)))) hb3)).page (k := q) hql; cases hgae; have HS3 := Lib.hid (hset3 ⟨o, v⟩); clear hset3))
                go_wp2
                go_roundw
                case rel => exact ⟨j + 1, by omega, by go_num, (by repeat (first | with_reducible exact hgx | with_reducible refine GIn.drew ?_ | with_reducible refine GIn.drewN ?_ _ | with_reducible refine GIn.alloc ?_ _ | (with_reducible refine GIn.below ?_ (by assumption)) | ((with_reducible refine GIn.set ?_ ?_ ?_ _); rotate_left; (focus (first | omega | (simp; omega))); (focus (first | omega | (simp; omega)))) | ((with_reducible refine GIn.setNew ?_ ?_ _); rotate_left; (focus (first | omega | (simp; omega)))))), by rw [HY.out]; exact HS3.out, (by repeat (first | with_reducible exact HROW3.out | with_reducible refine Row.drew ?_ | with_reducible refine Row.drewN ?_ _ | with_reducible refine Row.alloc ?_ _ | (with_reducible refine Row.below ?_ (by assumption)) | ((with_reducible refine Row.other ?_ ?_ _); rotate_left; (focus (first | omega | (simp; omega) | (simp; done)))) | ((with_reducible refine Row.far' (by assumption) ?_ ?_); (focus (first | omega | (simp; omega) | (simp; done))))))⟩
                case measure => simp [intOf]; omega
              · have hpa : Hid (putK f.pages bb j = collectP f.pages bb) := Lib.hid (putK_all (by rw [← hkle.out]; omega))
                go_wp2
                go_ret
                refine ⟨ret_bool hcf.out.symm, ?_, hgx⟩
                rw [hcc.out, hget.out, ← hpa.out]
                exact hown
end Go.Proofs.Ytnnanknljpkdeaa
