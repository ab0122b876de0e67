/-
  FnThinWrite: the view is the one before with the value at the sector; at most one place is taken; and a write is refused only if no place is free and the sector has none. No condition.
-/
import Derived.Test.YtkejdgegkbfofaaBase
import Derived.Test.YtkejdgegkbfofaaNum
import Derived.Test.YtkejdgegkbfofaaInts
import Derived.Test.YtkejdgegkbfofaaApp
import Derived.Test.YtkejdgegkbfofaaIntsW
import Derived.Test.YtkejdgegkbfofaaLib
import Derived.Test.YtkejdgegkbfofaaSpares
import Derived.Test.YtkejdgegkbfofaaOwn
import Derived.Test.YtkejdgegkbfofaaThin
import Derived.Test.YtkejdgegkbfofaaThinM
import Derived.Test.YtkejdgegkbfofaaThinC
import Derived.Test.YtkejdgegkbfofaaThinW
import Derived.Test.YtkejdgegkbfofaaThinF
import Derived.Test.YtkejdgegkbfofaaThinX
import Derived.Test.YtkejdgegkbfofaaThinY
import Derived.Test.YtkejdgegkbfofaaThinP
import Derived.Test.YtkejdgegkbfofaaThinV
import Derived.Test.YtkejdgegkbfofaaThinTr
import Derived.Test.YtkejdgegkbfofaaCopyB
import Derived.Test.YtkejdgegkbfofaaWriteS
import Derived.Test.YtkejdgegkbfofaaDraw
import Derived.Test.YtkejdgegkbfofaaDrawK
import Derived.Test.YtkejdgegkbfofaaDrawD
import Derived.Test.YtkejdgegkbfofaaKept
import Derived.Test.YtkejdgegkbfofaaDrawTh
import Derived.Test.YtkejdgegkbfofaaDrawThx
import Derived.Test.YtkejdgegkbfofaaLawTv
import Derived.Test.YtkejdgegkbfofaaLawTt
import Derived.Test.YtkejdgegkbfofaaOpen
import Derived.IntWalk
namespace Go.Proofs.Ytkejdgegkbfofaa
open Go.RowKit Go.ChangeShapes Go.WideShapes Go.ChangeAt Go.Deep Go.Joins
namespace LwTw
set_option maxRecDepth 100000 in
set_option maxHeartbeats 8000000 in
theorem walk (A : Option Addr) (c : Nat) (l : List Int) (w : World) (hl : l.length ≤ c) (hm : c ≤ maxLen) (hr : Rd eByte w A l) (hb : ∀ x ∈ l, 0 ≤ x ∧ x ≤ 255) :
    Calls Try.prog 6 #[.slice A l.length c] w fun e w' => e = .returned (.bool true) ∧ Below w.heap.size w w' := by
  have HB := Lib.hid hb
  clear hb
  by_cases hsz : (1048576 : Int) < l.length
  · unfold maxLen at hm
    go_enter Try.func6, Try.ntmps6
    go_wp2
    go_ret
    exact ⟨rfl, (by repeat (first | with_reducible exact Below.refl _ _ | with_reducible assumption | with_reducible refine below_drewN ?_ _ | with_reducible refine Below.drew ?_ | with_reducible refine Below.alloc ?_ ?_ _ | with_reducible refine Below.setCell ?_ ?_ _ | (with_reducible refine Below.next ?_ (by assumption)) | omega | (focus (simp; omega)) | (focus (simp; done))))⟩
  go_enter Try.func6, Try.ntmps6
  go_wp2_with fail
  refine (drawTw_any A c l _ hl hm hr HB.out).mono ?_
  rintro e w1 ⟨y0, y1, t, a, v, rfl, ⟨a0, a1⟩, ⟨v0, v1⟩, hrd1, hts, hb1⟩
  obtain ⟨A0, c0, A1, c1, rfl, rfl⟩ := thinRd_lens hrd1
  have hz1 := hb1.size
  have HB1 := Lib.hid hb1
  have HT1 := Lib.hid hrd1
  have htsz : Hid (sizeThin t ≤ 1099511627776) := Lib.hid (by omega)
  have hwl : t.whr.length ≤ 60 := by unfold sizeThin at hts; omega
  have hpl : t.pool.length ≤ 60 := by unfold sizeThin at hts; omega
  have LS := Loc.newAt w1 [.slice A0 t.whr.length c0, .slice A1 t.pool.length c1] 26 (b := w1.heap.size) rfl
  clear hb1 hrd1 hsz hts
  obtain ⟨x, hx⟩ : ∃ x, x = thinWriteB t a v := ⟨_, rfl⟩
  obtain ⟨ok, hok⟩ : ∃ ok, ok = thinWriteOk t a v := ⟨_, rfl⟩
  have HXD := Lib.hid hx
  have HOD := Lib.hid hok
  have hxs : sizeThin x ≤ sizeThin t + 1 := by rw [hx]; exact thinWriteB_size t a v
  have htl : sizeThin t ≤ 120 := by unfold sizeThin; omega
  have hxsz : Hid (sizeThin x ≤ 1099511627776) := Lib.hid (by omega)
  have hxl : x.whr.length ≤ 121 ∧ x.pool.length ≤ 121 := by unfold sizeThin at hxs htl; omega
  obtain ⟨hxw, hxp⟩ := hxl
  clear hx hok hxs htl
  go_wp2_with fail
  refine (implThinWrite_c _ _ t a v _ (ThinRd.below HT1.out (by repeat (first | with_reducible exact Below.refl _ _ | with_reducible refine below_drewN ?_ _ | with_reducible refine Below.drew ?_ | with_reducible refine Below.alloc ?_ ?_ _ | with_reducible refine Below.setCell ?_ ?_ _ | omega | (focus (simp; omega)) | (focus (simp; done))))) htsz.out).mono ?_
  rw [← HXD.out, ← HOD.out]
  rintro e w2 ⟨q0, q1, rfl, O2, hb2⟩
  obtain ⟨B0, d0, B1, d1, rfl, rfl⟩ := thinRd_lens (ThinOwn.rd O2)
  have LS2 := Loc.carryB LS (fun h => by ((repeat (first | with_reducible exact h | with_reducible refine Loc.drew ?_ | with_reducible refine Loc.drewN ?_ _ | with_reducible refine Loc.alloc ?_ _)); done)) hb2
  have zS_2 := LS2.lt
  have HB2 : Hid (Below w.heap.size w w2) := Lib.hid (Below.next (W := w) (by repeat (first | with_reducible exact HB1.out | with_reducible exact Below.refl _ _ | with_reducible refine below_drewN ?_ _ | with_reducible refine Below.drew ?_ | with_reducible refine Below.alloc ?_ ?_ _ | with_reducible refine Below.setCell ?_ ?_ _ | (with_reducible refine Below.next ?_ (by assumption)) | ((with_reducible refine Below.far' (by assumption) ?_ ?_ ?_); (focus (first | omega | (simp; omega) | (simp; done))); (focus (first | omega | (simp; omega) | (simp; done)))) | omega | (focus (simp; omega)) | (focus (simp; done)))) hb2)
  have HT2 := Lib.hid (ThinRd.below HT1.out (Below.next (by repeat (first | with_reducible exact Below.refl _ _ | with_reducible refine below_drewN ?_ _ | with_reducible refine Below.drew ?_ | with_reducible refine Below.alloc ?_ ?_ _ | with_reducible refine Below.setCell ?_ ?_ _ | omega | (focus (simp; omega)) | (focus (simp; done)))) hb2))
  have hz2 := hb2.size
  (try simp at hz2)
  have HX2 := Lib.hid (ThinOwn.rd O2)
  have LX2 := Loc.newAt w2 [.slice B0 x.whr.length d0, .slice B1 x.pool.length d1] 26 (b := w2.heap.size) rfl
  have LSa := Loc.alloc LS2 (.cells #[.slice B0 x.whr.length d0, .slice B1 x.pool.length d1] 26)
  clear hb2 O2 LS
  obtain ⟨s0, s1, sf⟩ := LSa.two
  obtain ⟨r0, r1, rf⟩ := LX2.two
  go_wp2_with fail
  refine (specThinWrite_c _ _ t a v _ (ThinRd.below HT2.out (by repeat (first | with_reducible exact Below.refl _ _ | with_reducible refine below_drewN ?_ _ | with_reducible refine Below.drew ?_ | with_reducible refine Below.alloc ?_ ?_ _ | with_reducible refine Below.setCell ?_ ?_ _ | omega | (focus (simp; omega)) | (focus (simp; done))))) htsz.out).mono ?_
  rw [← HXD.out, ← HOD.out]
  rintro e w3 ⟨p0, p1, rfl, O3, hb3⟩
  obtain ⟨C0, e0, C1, e1, rfl, rfl⟩ := thinRd_lens (ThinOwn.rd O3)
  have H3 := Lib.hid (ThinOwn.rd O3)
  have LS3 := Loc.carryB LS2 (fun h => by ((repeat (first | with_reducible exact h | with_reducible refine Loc.drew ?_ | with_reducible refine Loc.drewN ?_ _ | with_reducible refine Loc.alloc ?_ _)); done)) hb3; obtain ⟨s0_3, s1_3, sf_3⟩ := LS3.two; have zS_3 := LS3.lt; have LX3 := Loc.carryB LX2 (fun h => by ((repeat (first | with_reducible exact h | with_reducible refine Loc.drew ?_ | with_reducible refine Loc.drewN ?_ _ | with_reducible refine Loc.alloc ?_ _)); done)) hb3; obtain ⟨r0_3, r1_3, rf_3⟩ := LX3.two; have zX_3 := LX3.lt; have HB3 : Hid (Below w.heap.size w w3) := Lib.hid (Below.next (W := w) (by repeat (first | with_reducible exact HB2.out | with_reducible exact Below.refl _ _ | with_reducible refine below_drewN ?_ _ | with_reducible refine Below.drew ?_ | with_reducible refine Below.alloc ?_ ?_ _ | with_reducible refine Below.setCell ?_ ?_ _ | (with_reducible refine Below.next ?_ (by assumption)) | ((with_reducible refine Below.far' (by assumption) ?_ ?_ ?_); (focus (first | omega | (simp; omega) | (simp; done))); (focus (first | omega | (simp; omega) | (simp; done)))) | omega | (focus (simp; omega)) | (focus (simp; done)))) hb3); have HT3 := Lib.hid (ThinRd.below HT2.out (Below.next (by repeat (first | with_reducible exact Below.refl _ _ | with_reducible refine below_drewN ?_ _ | with_reducible refine Below.drew ?_ | with_reducible refine Below.alloc ?_ ?_ _ | with_reducible refine Below.setCell ?_ ?_ _ | omega | (focus (simp; omega)) | (focus (simp; done)))) hb3)); have HX3 := Lib.hid (ThinRd.below HX2.out (Below.next (by repeat (first | with_reducible exact Below.refl _ _ | with_reducible refine below_drewN ?_ _ | with_reducible refine Below.drew ?_ | with_reducible refine Below.alloc ?_ ?_ _ | with_reducible refine Below.setCell ?_ ?_ _ | omega | (focus (simp; omega)) | (focus (simp; done)))) hb3)); have hz3 := hb3.size; (try simp at hz3)
  have LY := Loc.newAt w3 [.slice C0 x.whr.length e0, .slice C1 x.pool.length e1] 26 (b := w3.heap.size) rfl
  obtain ⟨y0, y1, yf⟩ := LY.two
  clear s0 s1 sf r0 r1 rf LSa O3 hb3
  go_wp2_with fail
  refine (sameThin_c _ _ _ _ x _ (ThinRd.below HX3.out (by repeat (first | with_reducible exact Below.refl _ _ | with_reducible refine below_drewN ?_ _ | with_reducible refine Below.drew ?_ | with_reducible refine Below.alloc ?_ ?_ _ | with_reducible refine Below.setCell ?_ ?_ _ | omega | (focus (simp; omega)) | (focus (simp; done))))) (ThinRd.below H3.out (by repeat (first | with_reducible exact Below.refl _ _ | with_reducible refine below_drewN ?_ _ | with_reducible refine Below.drew ?_ | with_reducible refine Below.alloc ?_ ?_ _ | with_reducible refine Below.setCell ?_ ?_ _ | omega | (focus (simp; omega)) | (focus (simp; done))))) hxsz.out).mono ?_
  rintro e w4 ⟨rfl, hb4⟩
  clear s0_3 s1_3 sf_3 r0_3 r1_3 rf_3
  have LS4 := Loc.carryB LS3 (fun h => by ((repeat (first | with_reducible exact h | with_reducible refine Loc.drew ?_ | with_reducible refine Loc.drewN ?_ _ | with_reducible refine Loc.alloc ?_ _)); done)) hb4; obtain ⟨s0_4, s1_4, sf_4⟩ := LS4.two; have zS_4 := LS4.lt; have LX4 := Loc.carryB LX3 (fun h => by ((repeat (first | with_reducible exact h | with_reducible refine Loc.drew ?_ | with_reducible refine Loc.drewN ?_ _ | with_reducible refine Loc.alloc ?_ _)); done)) hb4; obtain ⟨r0_4, r1_4, rf_4⟩ := LX4.two; have zX_4 := LX4.lt; have HB4 : Hid (Below w.heap.size w w4) := Lib.hid (Below.next (W := w) (by repeat (first | with_reducible exact HB3.out | with_reducible exact Below.refl _ _ | with_reducible refine below_drewN ?_ _ | with_reducible refine Below.drew ?_ | with_reducible refine Below.alloc ?_ ?_ _ | with_reducible refine Below.setCell ?_ ?_ _ | (with_reducible refine Below.next ?_ (by assumption)) | ((with_reducible refine Below.far' (by assumption) ?_ ?_ ?_); (focus (first | omega | (simp; omega) | (simp; done))); (focus (first | omega | (simp; omega) | (simp; done)))) | omega | (focus (simp; omega)) | (focus (simp; done)))) hb4); have HT4 := Lib.hid (ThinRd.below HT3.out (Below.next (by repeat (first | with_reducible exact Below.refl _ _ | with_reducible refine below_drewN ?_ _ | with_reducible refine Below.drew ?_ | with_reducible refine Below.alloc ?_ ?_ _ | with_reducible refine Below.setCell ?_ ?_ _ | omega | (focus (simp; omega)) | (focus (simp; done)))) hb4)); have HX4 := Lib.hid (ThinRd.below HX3.out (Below.next (by repeat (first | with_reducible exact Below.refl _ _ | with_reducible refine below_drewN ?_ _ | with_reducible refine Below.drew ?_ | with_reducible refine Below.alloc ?_ ?_ _ | with_reducible refine Below.setCell ?_ ?_ _ | omega | (focus (simp; omega)) | (focus (simp; done)))) hb4)); have hz4 := hb4.size; (try simp at hz4)
  clear y0 y1 yf LY H3 hb4
  cases hargs : thinArgs t a v
  · have hok0 : ok = false := by rw [HOD.out, (thinW_no hargs).1]
    have hx0 : x.whr.length = 0 := by rw [HXD.out, (thinW_no hargs).2]; rfl
    have hx0' : ((x.whr.length : Int) == 0) = true := by simp [hx0]
    subst hok0
    clear hx0 hargs
    go_wp2_with (go_at_call 19; refine (alive_any _).mono ?_; rintro e w6 ⟨rfl, hb6⟩)
    go_ret
    exact ⟨rfl, Below.next (W := w) HB4.out hb6⟩
  · obtain ⟨hbt, ⟨k, rfl, hk⟩, hv255, hcase⟩ := thinW_facts hargs
    rw [← HXD.out, ← HOD.out] at hcase
    clear hargs
    rcases hcase with ⟨rfl, hxt, hfree, hneg⟩ | ⟨rfl, hbx, hxlen, hview, hf1, hf2⟩
    · have hneg2 : (t.whr[k]'hk) < 0 := by simpa [hk] using hneg
      obtain ⟨b, off, rfl, hbl, hcx⟩ := (ThinRd.whr HT4.out).int hk
      obtain ⟨y, hy⟩ : ∃ y, y = t.whr[k]'hk := ⟨_, rfl⟩
      rw [← hy] at hneg2 hcx
      have hxw0 : x.whr.length = t.whr.length := by rw [hxt]
      have h0' : ((x.whr.length : Int) == 0) = false := by rw [beq_eq_false_iff_ne]; omega
      have HXT := Lib.hid hxt
      have HFR := Lib.hid hfree
      clear hxt hfree hneg hbt hy hxw0
      go_wp2_with fail
      refine (sameThin_c _ _ _ _ x _ (ThinRd.below HX4.out (by repeat (first | with_reducible exact Below.refl _ _ | with_reducible refine below_drewN ?_ _ | with_reducible refine Below.drew ?_ | with_reducible refine Below.alloc ?_ ?_ _ | with_reducible refine Below.setCell ?_ ?_ _ | omega | (focus (simp; omega)) | (focus (simp; done))))) (ThinRd.below (w := w4) (by rw [HXT.out]; exact HT4.out) (by repeat (first | with_reducible exact Below.refl _ _ | with_reducible refine below_drewN ?_ _ | with_reducible refine Below.drew ?_ | with_reducible refine Below.alloc ?_ ?_ _ | with_reducible refine Below.setCell ?_ ?_ _ | omega | (focus (simp; omega)) | (focus (simp; done))))) hxsz.out).mono ?_
      rintro e w5 ⟨rfl, hb5⟩
      clear s0_4 s1_4 sf_4 r0_4 r1_4 rf_4
      have LS5 := Loc.carryB LS4 (fun h => by ((repeat (first | with_reducible exact h | with_reducible refine Loc.drew ?_ | with_reducible refine Loc.drewN ?_ _ | with_reducible refine Loc.alloc ?_ _)); done)) hb5; obtain ⟨s0_5, s1_5, sf_5⟩ := LS5.two; have zS_5 := LS5.lt; have LX5 := Loc.carryB LX4 (fun h => by ((repeat (first | with_reducible exact h | with_reducible refine Loc.drew ?_ | with_reducible refine Loc.drewN ?_ _ | with_reducible refine Loc.alloc ?_ _)); done)) hb5; obtain ⟨r0_5, r1_5, rf_5⟩ := LX5.two; have zX_5 := LX5.lt; have HB5 : Hid (Below w.heap.size w w5) := Lib.hid (Below.next (W := w) (by repeat (first | with_reducible exact HB4.out | with_reducible exact Below.refl _ _ | with_reducible refine below_drewN ?_ _ | with_reducible refine Below.drew ?_ | with_reducible refine Below.alloc ?_ ?_ _ | with_reducible refine Below.setCell ?_ ?_ _ | (with_reducible refine Below.next ?_ (by assumption)) | ((with_reducible refine Below.far' (by assumption) ?_ ?_ ?_); (focus (first | omega | (simp; omega) | (simp; done))); (focus (first | omega | (simp; omega) | (simp; done)))) | omega | (focus (simp; omega)) | (focus (simp; done)))) hb5); have HT5 := Lib.hid (ThinRd.below HT4.out (Below.next (by repeat (first | with_reducible exact Below.refl _ _ | with_reducible refine below_drewN ?_ _ | with_reducible refine Below.drew ?_ | with_reducible refine Below.alloc ?_ ?_ _ | with_reducible refine Below.setCell ?_ ?_ _ | omega | (focus (simp; omega)) | (focus (simp; done)))) hb5)); have HX5 := Lib.hid (ThinRd.below HX4.out (Below.next (by repeat (first | with_reducible exact Below.refl _ _ | with_reducible refine below_drewN ?_ _ | with_reducible refine Below.drew ?_ | with_reducible refine Below.alloc ?_ ?_ _ | with_reducible refine Below.setCell ?_ ?_ _ | omega | (focus (simp; omega)) | (focus (simp; done)))) hb5)); have hz5 := hb5.size; (try simp at hz5)
      go_wp2_with fail
      refine (implTFree_c _ _ t _ (ThinRd.below HT5.out (by repeat (first | with_reducible exact Below.refl _ _ | with_reducible refine below_drewN ?_ _ | with_reducible refine Below.drew ?_ | with_reducible refine Below.alloc ?_ ?_ _ | with_reducible refine Below.setCell ?_ ?_ _ | omega | (focus (simp; omega)) | (focus (simp; done))))) htsz.out).mono ?_
      rw [HFR.out]
      rintro e w6 ⟨rfl, hb6⟩
      have hcx5 := (bcell hb5).1 b (off + k) hbl
      rw [hcx] at hcx5
      have hbl5 : b < w5.heap.size := by omega
      have hcx6 := (bcell hb6).1 b (off + k) hbl5
      rw [hcx5] at hcx6
      clear hcx hcx5 s0_5 s1_5 sf_5 r0_5 r1_5 rf_5
      have LS6 := Loc.carryB LS5 (fun h => by ((repeat (first | with_reducible exact h | with_reducible refine Loc.drew ?_ | with_reducible refine Loc.drewN ?_ _ | with_reducible refine Loc.alloc ?_ _)); done)) hb6; obtain ⟨s0_6, s1_6, sf_6⟩ := LS6.two; have zS_6 := LS6.lt; have LX6 := Loc.carryB LX5 (fun h => by ((repeat (first | with_reducible exact h | with_reducible refine Loc.drew ?_ | with_reducible refine Loc.drewN ?_ _ | with_reducible refine Loc.alloc ?_ _)); done)) hb6; obtain ⟨r0_6, r1_6, rf_6⟩ := LX6.two; have zX_6 := LX6.lt; have HB6 : Hid (Below w.heap.size w w6) := Lib.hid (Below.next (W := w) (by repeat (first | with_reducible exact HB5.out | with_reducible exact Below.refl _ _ | with_reducible refine below_drewN ?_ _ | with_reducible refine Below.drew ?_ | with_reducible refine Below.alloc ?_ ?_ _ | with_reducible refine Below.setCell ?_ ?_ _ | (with_reducible refine Below.next ?_ (by assumption)) | ((with_reducible refine Below.far' (by assumption) ?_ ?_ ?_); (focus (first | omega | (simp; omega) | (simp; done))); (focus (first | omega | (simp; omega) | (simp; done)))) | omega | (focus (simp; omega)) | (focus (simp; done)))) hb6); have HT6 := Lib.hid (ThinRd.below HT5.out (Below.next (by repeat (first | with_reducible exact Below.refl _ _ | with_reducible refine below_drewN ?_ _ | with_reducible refine Below.drew ?_ | with_reducible refine Below.alloc ?_ ?_ _ | with_reducible refine Below.setCell ?_ ?_ _ | omega | (focus (simp; omega)) | (focus (simp; done)))) hb6)); have HX6 := Lib.hid (ThinRd.below HX5.out (Below.next (by repeat (first | with_reducible exact Below.refl _ _ | with_reducible refine below_drewN ?_ _ | with_reducible refine Below.drew ?_ | with_reducible refine Below.alloc ?_ ?_ _ | with_reducible refine Below.setCell ?_ ?_ _ | omega | (focus (simp; omega)) | (focus (simp; done)))) hb6)); have hz6 := hb6.size; (try simp at hz6)
      go_wp2_with (go_at_call 19; refine (alive_any _).mono ?_; rintro e w7 ⟨rfl, hb7⟩)
      go_ret
      exact ⟨rfl, Below.next (W := w) HB6.out hb7⟩
    · obtain ⟨vx, hvx⟩ : ∃ vx, vx = thinV x := ⟨_, rfl⟩
      obtain ⟨vt, hvt⟩ : ∃ vt, vt = thinV t := ⟨_, rfl⟩
      obtain ⟨fx, hfx⟩ : ∃ fx, fx = freeTh x := ⟨_, rfl⟩
      obtain ⟨ft, hft⟩ : ∃ ft, ft = freeTh t := ⟨_, rfl⟩
      have hftb : -100 ≤ ft ∧ ft ≤ 100 := by
        have := usedT_le t.whr
        rw [hft, freeTh_yes hbt]; omega
      obtain ⟨hft0, hft1⟩ := hftb
      have hview2 : vx = vt.set k v := by rw [hvx, hvt, thinV_yes hbx, thinV_yes hbt, hview, Int.toNat_natCast]
      have hdd : diskB vt = true := by rw [hvt, thinV_yes hbt]; exact viewT_disk (thin_iff.1 hbt)
      have hkd : k < vt.length := by rw [hvt, thinV_yes hbt, viewT_len]; exact hk
      rw [← hfx, ← hft] at hf1 hf2
      have HVX := Lib.hid hvx
      have HVT := Lib.hid hvt
      have HFX := Lib.hid hfx
      have HFT := Lib.hid hft
      have HVW := Lib.hid hview2
      have HDD := Lib.hid hdd
      have HOKX := Lib.hid hbx
      have HV2 := Lib.hid hv255
      have hvl2 : vt.length ≤ 64 := (diskB_true.1 hdd).1
      have hxl2 : vx.length ≤ 64 := by rw [hview2, List.length_set]; exact hvl2
      have hwf := IntWalk.i64_in (ft - 1) (by omega)
      clear hview hview2 hdd hvx hvt hfx hft hbt hbx hxlen hv255 hk
      go_wp2_with fail
      refine (implTFree_c _ _ t _ (ThinRd.below HT4.out (by repeat (first | with_reducible exact Below.refl _ _ | with_reducible refine below_drewN ?_ _ | with_reducible refine Below.drew ?_ | with_reducible refine Below.alloc ?_ ?_ _ | with_reducible refine Below.setCell ?_ ?_ _ | omega | (focus (simp; omega)) | (focus (simp; done))))) htsz.out).mono ?_
      rw [← HFT.out]
      rintro e w5 ⟨rfl, hb5⟩
      clear s0_4 s1_4 sf_4 r0_4 r1_4 rf_4
      have LS5 := Loc.carryB LS4 (fun h => by ((repeat (first | with_reducible exact h | with_reducible refine Loc.drew ?_ | with_reducible refine Loc.drewN ?_ _ | with_reducible refine Loc.alloc ?_ _)); done)) hb5; obtain ⟨s0_5, s1_5, sf_5⟩ := LS5.two; have zS_5 := LS5.lt; have LX5 := Loc.carryB LX4 (fun h => by ((repeat (first | with_reducible exact h | with_reducible refine Loc.drew ?_ | with_reducible refine Loc.drewN ?_ _ | with_reducible refine Loc.alloc ?_ _)); done)) hb5; obtain ⟨r0_5, r1_5, rf_5⟩ := LX5.two; have zX_5 := LX5.lt; have HB5 : Hid (Below w.heap.size w w5) := Lib.hid (Below.next (W := w) (by repeat (first | with_reducible exact HB4.out | with_reducible exact Below.refl _ _ | with_reducible refine below_drewN ?_ _ | with_reducible refine Below.drew ?_ | with_reducible refine Below.alloc ?_ ?_ _ | with_reducible refine Below.setCell ?_ ?_ _ | (with_reducible refine Below.next ?_ (by assumption)) | ((with_reducible refine Below.far' (by assumption) ?_ ?_ ?_); (focus (first | omega | (simp; omega) | (simp; done))); (focus (first | omega | (simp; omega) | (simp; done)))) | omega | (focus (simp; omega)) | (focus (simp; done)))) hb5); have HT5 := Lib.hid (ThinRd.below HT4.out (Below.next (by repeat (first | with_reducible exact Below.refl _ _ | with_reducible refine below_drewN ?_ _ | with_reducible refine Below.drew ?_ | with_reducible refine Below.alloc ?_ ?_ _ | with_reducible refine Below.setCell ?_ ?_ _ | omega | (focus (simp; omega)) | (focus (simp; done)))) hb5)); have HX5 := Lib.hid (ThinRd.below HX4.out (Below.next (by repeat (first | with_reducible exact Below.refl _ _ | with_reducible refine below_drewN ?_ _ | with_reducible refine Below.drew ?_ | with_reducible refine Below.alloc ?_ ?_ _ | with_reducible refine Below.setCell ?_ ?_ _ | omega | (focus (simp; omega)) | (focus (simp; done)))) hb5)); have hz5 := hb5.size; (try simp at hz5)
      clear hb5
      go_wp2
      go_region_held3 (fun w' => w'.cell? ⟨w1.heap.size, 0, none⟩ = some (.slice A0 t.whr.length c0) ∧ w'.cell? ⟨w1.heap.size, 1, none⟩ = some (.slice A1 t.pool.length c1) ∧ w'.cell? ⟨w2.heap.size, 0, none⟩ = some (.slice B0 x.whr.length d0) ∧ w'.cell? ⟨w2.heap.size, 1, none⟩ = some (.slice B1 x.pool.length d1)) (first | (with_reducible assumption) | (refine ⟨?_, ?_, ?_, ?_⟩ <;> with_reducible assumption) | go_keep | (refine ⟨?_, ?_, ?_, ?_⟩ <;> (simp [go_sem, *]; done))) (first
        | (go_at_call 18; go_must ((with_reducible refine (implThin_c _ _ x _ (ThinRd.below HX5.out (by repeat (first | with_reducible exact Below.refl _ _ | with_reducible refine below_drewN ?_ _ | with_reducible refine Below.drew ?_ | with_reducible refine Below.alloc ?_ ?_ _ | with_reducible refine Below.setCell ?_ ?_ _ | omega | (focus (simp; omega)) | (focus (simp; done))))) hxsz.out).mono ?_); rw [HOKX.out]; rintro e w6 ⟨rfl, hb6⟩; have LS6 := Loc.carryB LS5 (fun h => by ((repeat (first | with_reducible exact h | with_reducible refine Loc.drew ?_ | with_reducible refine Loc.drewN ?_ _ | with_reducible refine Loc.alloc ?_ _)); done)) hb6; obtain ⟨s0_6, s1_6, sf_6⟩ := LS6.two; have zS_6 := LS6.lt; have LX6 := Loc.carryB LX5 (fun h => by ((repeat (first | with_reducible exact h | with_reducible refine Loc.drew ?_ | with_reducible refine Loc.drewN ?_ _ | with_reducible refine Loc.alloc ?_ _)); done)) hb6; obtain ⟨r0_6, r1_6, rf_6⟩ := LX6.two; have zX_6 := LX6.lt; have HB6 : Hid (Below w.heap.size w w6) := Lib.hid (Below.next (W := w) (by repeat (first | with_reducible exact HB5.out | with_reducible exact Below.refl _ _ | with_reducible refine below_drewN ?_ _ | with_reducible refine Below.drew ?_ | with_reducible refine Below.alloc ?_ ?_ _ | with_reducible refine Below.setCell ?_ ?_ _ | (with_reducible refine Below.next ?_ (by assumption)) | ((with_reducible refine Below.far' (by assumption) ?_ ?_ ?_); (focus (first | omega | (simp; omega) | (simp; done))); (focus (first | omega | (simp; omega) | (simp; done)))) | omega | (focus (simp; omega)) | (focus (simp; done)))) hb6); have HT6 := Lib.hid (ThinRd.below HT5.out (Below.next (by repeat (first | with_reducible exact Below.refl _ _ | with_reducible refine below_drewN ?_ _ | with_reducible refine Below.drew ?_ | with_reducible refine Below.alloc ?_ ?_ _ | with_reducible refine Below.setCell ?_ ?_ _ | omega | (focus (simp; omega)) | (focus (simp; done)))) hb6)); have HX6 := Lib.hid (ThinRd.below HX5.out (Below.next (by repeat (first | with_reducible exact Below.refl _ _ | with_reducible refine below_drewN ?_ _ | with_reducible refine Below.drew ?_ | with_reducible refine Below.alloc ?_ ?_ _ | with_reducible refine Below.setCell ?_ ?_ _ | omega | (focus (simp; omega)) | (focus (simp; done)))) hb6)); have hz6 := hb6.size; (try simp at hz6); clear hb6))
        | (go_at_call 15; (with_reducible refine (implTView_c (.slice B0 x.whr.length d0) _ x _ (ThinRd.below HX6.out (by repeat (first | with_reducible exact Below.refl _ _ | with_reducible refine below_drewN ?_ _ | with_reducible refine Below.drew ?_ | with_reducible refine Below.alloc ?_ ?_ _ | with_reducible refine Below.setCell ?_ ?_ _ | omega | (focus (simp; omega)) | (focus (simp; done))))) hxsz.out).mono ?_); go_must (rw [← HVX.out]; rintro e w7 ⟨u7, rfl, o7, hb7⟩; obtain ⟨A7, c7, gg7, rfl, -, -⟩ := id o7; have LS7 := Loc.carryB LS6 (fun h => by ((repeat (first | with_reducible exact h | with_reducible refine Loc.drew ?_ | with_reducible refine Loc.drewN ?_ _ | with_reducible refine Loc.alloc ?_ _)); done)) hb7; obtain ⟨s0_7, s1_7, sf_7⟩ := LS7.two; have zS_7 := LS7.lt; have LX7 := Loc.carryB LX6 (fun h => by ((repeat (first | with_reducible exact h | with_reducible refine Loc.drew ?_ | with_reducible refine Loc.drewN ?_ _ | with_reducible refine Loc.alloc ?_ _)); done)) hb7; obtain ⟨r0_7, r1_7, rf_7⟩ := LX7.two; have zX_7 := LX7.lt; have HB7 : Hid (Below w.heap.size w w7) := Lib.hid (Below.next (W := w) (by repeat (first | with_reducible exact HB6.out | with_reducible exact Below.refl _ _ | with_reducible refine below_drewN ?_ _ | with_reducible refine Below.drew ?_ | with_reducible refine Below.alloc ?_ ?_ _ | with_reducible refine Below.setCell ?_ ?_ _ | (with_reducible refine Below.next ?_ (by assumption)) | ((with_reducible refine Below.far' (by assumption) ?_ ?_ ?_); (focus (first | omega | (simp; omega) | (simp; done))); (focus (first | omega | (simp; omega) | (simp; done)))) | omega | (focus (simp; omega)) | (focus (simp; done)))) hb7); have HT7 := Lib.hid (ThinRd.below HT6.out (Below.next (by repeat (first | with_reducible exact Below.refl _ _ | with_reducible refine below_drewN ?_ _ | with_reducible refine Below.drew ?_ | with_reducible refine Below.alloc ?_ ?_ _ | with_reducible refine Below.setCell ?_ ?_ _ | omega | (focus (simp; omega)) | (focus (simp; done)))) hb7)); have HX7 := Lib.hid (ThinRd.below HX6.out (Below.next (by repeat (first | with_reducible exact Below.refl _ _ | with_reducible refine below_drewN ?_ _ | with_reducible refine Below.drew ?_ | with_reducible refine Below.alloc ?_ ?_ _ | with_reducible refine Below.setCell ?_ ?_ _ | omega | (focus (simp; omega)) | (focus (simp; done)))) hb7)); have hz7 := hb7.size; (try simp at hz7); have H7 := Lib.hid (SOwn.rd o7); clear o7))
        | (go_at_call 15; (with_reducible refine (implTView_c (.slice A0 t.whr.length c0) _ t _ (ThinRd.below HT7.out (by repeat (first | with_reducible exact Below.refl _ _ | with_reducible refine below_drewN ?_ _ | with_reducible refine Below.drew ?_ | with_reducible refine Below.alloc ?_ ?_ _ | with_reducible refine Below.setCell ?_ ?_ _ | omega | (focus (simp; omega)) | (focus (simp; done))))) htsz.out).mono ?_); go_must (rw [← HVT.out]; rintro e w8 ⟨u8, rfl, o8, hb8⟩; obtain ⟨A8, c8, gg8, rfl, -, -⟩ := id o8; have LS8 := Loc.carryB LS7 (fun h => by ((repeat (first | with_reducible exact h | with_reducible refine Loc.drew ?_ | with_reducible refine Loc.drewN ?_ _ | with_reducible refine Loc.alloc ?_ _)); done)) hb8; obtain ⟨s0_8, s1_8, sf_8⟩ := LS8.two; have zS_8 := LS8.lt; have LX8 := Loc.carryB LX7 (fun h => by ((repeat (first | with_reducible exact h | with_reducible refine Loc.drew ?_ | with_reducible refine Loc.drewN ?_ _ | with_reducible refine Loc.alloc ?_ _)); done)) hb8; obtain ⟨r0_8, r1_8, rf_8⟩ := LX8.two; have zX_8 := LX8.lt; have HB8 : Hid (Below w.heap.size w w8) := Lib.hid (Below.next (W := w) (by repeat (first | with_reducible exact HB7.out | with_reducible exact Below.refl _ _ | with_reducible refine below_drewN ?_ _ | with_reducible refine Below.drew ?_ | with_reducible refine Below.alloc ?_ ?_ _ | with_reducible refine Below.setCell ?_ ?_ _ | (with_reducible refine Below.next ?_ (by assumption)) | ((with_reducible refine Below.far' (by assumption) ?_ ?_ ?_); (focus (first | omega | (simp; omega) | (simp; done))); (focus (first | omega | (simp; omega) | (simp; done)))) | omega | (focus (simp; omega)) | (focus (simp; done)))) hb8); have HT8 := Lib.hid (ThinRd.below HT7.out (Below.next (by repeat (first | with_reducible exact Below.refl _ _ | with_reducible refine below_drewN ?_ _ | with_reducible refine Below.drew ?_ | with_reducible refine Below.alloc ?_ ?_ _ | with_reducible refine Below.setCell ?_ ?_ _ | omega | (focus (simp; omega)) | (focus (simp; done)))) hb8)); have HX8 := Lib.hid (ThinRd.below HX7.out (Below.next (by repeat (first | with_reducible exact Below.refl _ _ | with_reducible refine below_drewN ?_ _ | with_reducible refine Below.drew ?_ | with_reducible refine Below.alloc ?_ ?_ _ | with_reducible refine Below.setCell ?_ ?_ _ | omega | (focus (simp; omega)) | (focus (simp; done)))) hb8)); have hz8 := hb8.size; (try simp at hz8); have H8 := Lib.hid (SOwn.rd o8); have H78 := Lib.hid (SRd.below H7.out (Below.next (by repeat (first | with_reducible exact Below.refl _ _ | with_reducible refine below_drewN ?_ _ | with_reducible refine Below.drew ?_ | with_reducible refine Below.alloc ?_ ?_ _ | with_reducible refine Below.setCell ?_ ?_ _ | omega | (focus (simp; omega)) | (focus (simp; done)))) hb8)); clear o8))
        | (go_at_call 24; go_must ((with_reducible refine (write1_srdT k v HVW.out (SRd.below H8.out (by repeat (first | with_reducible exact Below.refl _ _ | with_reducible refine below_drewN ?_ _ | with_reducible refine Below.drew ?_ | with_reducible refine Below.alloc ?_ ?_ _ | with_reducible refine Below.setCell ?_ ?_ _ | omega | (focus (simp; omega)) | (focus (simp; done))))) ?_ HDD.out hkd HV2.out).mono ?_); (focus (exact (by repeat (first | ((with_reducible refine Rd.lit ?_ ?_); (focus (first | with_reducible rfl | omega | (simp; omega) | (simp; done))); (focus (first | rfl | (simp; rfl) | (simp; done)))) | with_reducible refine Rd.drew ?_ | with_reducible refine Rd.drewN ?_ _ | with_reducible refine Rd.alloc ?_ _ | (with_reducible refine Rd.below ?_ (by assumption)))))); rintro e w9 ⟨u9, rfl, o9, hb9⟩; obtain ⟨A9, c9, gg9, rfl, -, -⟩ := id o9; have LS9 := Loc.carryB LS8 (fun h => by ((repeat (first | with_reducible exact h | with_reducible refine Loc.drew ?_ | with_reducible refine Loc.drewN ?_ _ | with_reducible refine Loc.alloc ?_ _)); done)) hb9; obtain ⟨s0_9, s1_9, sf_9⟩ := LS9.two; have zS_9 := LS9.lt; have LX9 := Loc.carryB LX8 (fun h => by ((repeat (first | with_reducible exact h | with_reducible refine Loc.drew ?_ | with_reducible refine Loc.drewN ?_ _ | with_reducible refine Loc.alloc ?_ _)); done)) hb9; obtain ⟨r0_9, r1_9, rf_9⟩ := LX9.two; have zX_9 := LX9.lt; have HB9 : Hid (Below w.heap.size w w9) := Lib.hid (Below.next (W := w) (by repeat (first | with_reducible exact HB8.out | with_reducible exact Below.refl _ _ | with_reducible refine below_drewN ?_ _ | with_reducible refine Below.drew ?_ | with_reducible refine Below.alloc ?_ ?_ _ | with_reducible refine Below.setCell ?_ ?_ _ | (with_reducible refine Below.next ?_ (by assumption)) | ((with_reducible refine Below.far' (by assumption) ?_ ?_ ?_); (focus (first | omega | (simp; omega) | (simp; done))); (focus (first | omega | (simp; omega) | (simp; done)))) | omega | (focus (simp; omega)) | (focus (simp; done)))) hb9); have HT9 := Lib.hid (ThinRd.below HT8.out (Below.next (by repeat (first | with_reducible exact Below.refl _ _ | with_reducible refine below_drewN ?_ _ | with_reducible refine Below.drew ?_ | with_reducible refine Below.alloc ?_ ?_ _ | with_reducible refine Below.setCell ?_ ?_ _ | omega | (focus (simp; omega)) | (focus (simp; done)))) hb9)); have HX9 := Lib.hid (ThinRd.below HX8.out (Below.next (by repeat (first | with_reducible exact Below.refl _ _ | with_reducible refine below_drewN ?_ _ | with_reducible refine Below.drew ?_ | with_reducible refine Below.alloc ?_ ?_ _ | with_reducible refine Below.setCell ?_ ?_ _ | omega | (focus (simp; omega)) | (focus (simp; done)))) hb9)); have hz9 := hb9.size; (try simp at hz9); have H9 := Lib.hid (SOwn.rd o9); have H79 := Lib.hid (SRd.below H78.out (Below.next (by repeat (first | with_reducible exact Below.refl _ _ | with_reducible refine below_drewN ?_ _ | with_reducible refine Below.drew ?_ | with_reducible refine Below.alloc ?_ ?_ _ | with_reducible refine Below.setCell ?_ ?_ _ | omega | (focus (simp; omega)) | (focus (simp; done)))) hb9)); clear o9 hb9 hb8 hb7))
        | (go_at_call 16; go_must ((with_reducible refine (sameInts_v (.slice A7 vx.length c7) (.slice A9 vx.length c9) vx vx _ (SRd.below H79.out (by repeat (first | with_reducible exact Below.refl _ _ | with_reducible refine below_drewN ?_ _ | with_reducible refine Below.drew ?_ | with_reducible refine Below.alloc ?_ ?_ _ | with_reducible refine Below.setCell ?_ ?_ _ | omega | (focus (simp; omega)) | (focus (simp; done))))) (SRd.below H9.out (by repeat (first | with_reducible exact Below.refl _ _ | with_reducible refine below_drewN ?_ _ | with_reducible refine Below.drew ?_ | with_reducible refine Below.alloc ?_ ?_ _ | with_reducible refine Below.setCell ?_ ?_ _ | omega | (focus (simp; omega)) | (focus (simp; done))))) (by omega) (by omega)).mono ?_); rw [dec_reflT]; rintro e w10 ⟨rfl, q10, rfl⟩))
        | (go_at_call 25; (with_reducible refine (implTFree_c (.slice B0 x.whr.length d0) _ x (w9.drewN q10) (ThinRd.below (w' := w9.drewN q10) HX9.out (below_drewN (Below.refl _ _) _)) hxsz.out).mono ?_); go_must (rw [← HFX.out]; rintro e w11 ⟨rfl, hb11⟩; have LS11 := Loc.carryB LS9 (fun h => by ((repeat (first | with_reducible exact h | with_reducible refine Loc.drew ?_ | with_reducible refine Loc.drewN ?_ _ | with_reducible refine Loc.alloc ?_ _)); done)) hb11; obtain ⟨s0_11, s1_11, sf_11⟩ := LS11.two; have zS_11 := LS11.lt; have LX11 := Loc.carryB LX9 (fun h => by ((repeat (first | with_reducible exact h | with_reducible refine Loc.drew ?_ | with_reducible refine Loc.drewN ?_ _ | with_reducible refine Loc.alloc ?_ _)); done)) hb11; obtain ⟨r0_11, r1_11, rf_11⟩ := LX11.two; have zX_11 := LX11.lt; have HB11 : Hid (Below w.heap.size w w11) := Lib.hid (Below.next (W := w) (by repeat (first | with_reducible exact HB9.out | with_reducible exact Below.refl _ _ | with_reducible refine below_drewN ?_ _ | with_reducible refine Below.drew ?_ | with_reducible refine Below.alloc ?_ ?_ _ | with_reducible refine Below.setCell ?_ ?_ _ | (with_reducible refine Below.next ?_ (by assumption)) | ((with_reducible refine Below.far' (by assumption) ?_ ?_ ?_); (focus (first | omega | (simp; omega) | (simp; done))); (focus (first | omega | (simp; omega) | (simp; done)))) | omega | (focus (simp; omega)) | (focus (simp; done)))) hb11); have HT11 := Lib.hid (ThinRd.below HT9.out (Below.next (by repeat (first | with_reducible exact Below.refl _ _ | with_reducible refine below_drewN ?_ _ | with_reducible refine Below.drew ?_ | with_reducible refine Below.alloc ?_ ?_ _ | with_reducible refine Below.setCell ?_ ?_ _ | omega | (focus (simp; omega)) | (focus (simp; done)))) hb11)); have HX11 := Lib.hid (ThinRd.below HX9.out (Below.next (by repeat (first | with_reducible exact Below.refl _ _ | with_reducible refine below_drewN ?_ _ | with_reducible refine Below.drew ?_ | with_reducible refine Below.alloc ?_ ?_ _ | with_reducible refine Below.setCell ?_ ?_ _ | omega | (focus (simp; omega)) | (focus (simp; done)))) hb11)); have hz11 := hb11.size; (try simp at hz11); clear hb11))
        | (go_at_call 25; (with_reducible refine (implTFree_c (.slice B0 x.whr.length d0) _ x w11 HX11.out hxsz.out).mono ?_); go_must (rw [← HFX.out]; rintro e w12 ⟨rfl, hb12⟩; have LS12 := Loc.carryB LS11 (fun h => by ((repeat (first | with_reducible exact h | with_reducible refine Loc.drew ?_ | with_reducible refine Loc.drewN ?_ _ | with_reducible refine Loc.alloc ?_ _)); done)) hb12; obtain ⟨s0_12, s1_12, sf_12⟩ := LS12.two; have zS_12 := LS12.lt; have LX12 := Loc.carryB LX11 (fun h => by ((repeat (first | with_reducible exact h | with_reducible refine Loc.drew ?_ | with_reducible refine Loc.drewN ?_ _ | with_reducible refine Loc.alloc ?_ _)); done)) hb12; obtain ⟨r0_12, r1_12, rf_12⟩ := LX12.two; have zX_12 := LX12.lt; have HB12 : Hid (Below w.heap.size w w12) := Lib.hid (Below.next (W := w) (by repeat (first | with_reducible exact HB11.out | with_reducible exact Below.refl _ _ | with_reducible refine below_drewN ?_ _ | with_reducible refine Below.drew ?_ | with_reducible refine Below.alloc ?_ ?_ _ | with_reducible refine Below.setCell ?_ ?_ _ | (with_reducible refine Below.next ?_ (by assumption)) | ((with_reducible refine Below.far' (by assumption) ?_ ?_ ?_); (focus (first | omega | (simp; omega) | (simp; done))); (focus (first | omega | (simp; omega) | (simp; done)))) | omega | (focus (simp; omega)) | (focus (simp; done)))) hb12); have HT12 := Lib.hid (ThinRd.below HT11.out (Below.next (by repeat (first | with_reducible exact Below.refl _ _ | with_reducible refine below_drewN ?_ _ | with_reducible refine Below.drew ?_ | with_reducible refine Below.alloc ?_ ?_ _ | with_reducible refine Below.setCell ?_ ?_ _ | omega | (focus (simp; omega)) | (focus (simp; done)))) hb12)); have HX12 := Lib.hid (ThinRd.below HX11.out (Below.next (by repeat (first | with_reducible exact Below.refl _ _ | with_reducible refine below_drewN ?_ _ | with_reducible refine Below.drew ?_ | with_reducible refine Below.alloc ?_ ?_ _ | with_reducible refine Below.setCell ?_ ?_ _ | omega | (focus (simp; omega)) | (focus (simp; done)))) hb12)); have hz12 := hb12.size; (try simp at hz12); clear hb12)))
      all_goals
        go_wp2
        go_ret
        exact ⟨rfl, (by repeat (first | with_reducible exact HB12.out | with_reducible exact Below.refl _ _ | with_reducible refine below_drewN ?_ _ | with_reducible refine Below.drew ?_ | with_reducible refine Below.alloc ?_ ?_ _ | with_reducible refine Below.setCell ?_ ?_ _ | (with_reducible refine Below.next ?_ (by assumption)) | ((with_reducible refine Below.far' (by assumption) ?_ ?_ ?_); (focus (first | omega | (simp; omega) | (simp; done))); (focus (first | omega | (simp; omega) | (simp; done)))) | omega | (focus (simp; omega)) | (focus (simp; done))))⟩
set_option maxRecDepth 100000 in
theorem lifted (os : Os) (started : os.Started) (H : Type) (enc : TypeId × Value → H) :
    ReturnsInHanded {} Try.checked os 6 .any (Rows.fnThinWriteSpec.pre6 enc Try.prog Try.f6 Rows.fnThinWriteRow.domain false) (Rows.fnThinWriteSpec.post enc Try.prog Try.f6 false true false false) := by
  refine returnsInHanded_of_change (C := Try.checked) own_knob started (by kernel_rfl) Try.func6
    (ChangeSpec.witness6 (enc := enc) (C := Try.checked) false ⟨#[], #[.slice none 0 0], []⟩ 8 (by kernel_rfl) (by kernel_rfl) (by kernel_rfl) (by kernel_rfl)) ?_
  intro W base args ds gs before hval0 hW hcnd _
  have hval : ∀ (j : Nat) t v, Try.f6.params[j]? = some t → args[j]? = some v → Value.okWide Try.prog W .any base t v := hval0
  have hW' := hW
  obtain ⟨p, q, hA0, hV, rfl, hfz, hnd⟩ := hW
  have hA : DataW.TrodAll enc Try.prog W 0 (fun _ => true) true Try.f6.params.toList args.toList ds p := hA0
  rw [Try.params6] at hA hval
  obtain ⟨v0, vs0, d0, ds0, p0, q0, hargs, rfl, rfl, h0, r0⟩ := trodAll_cons hA
  obtain ⟨rfl, rfl, rfl⟩ := trodAll_nil r0
  obtain rfl : args = #[v0] := by cases args; simp_all
  obtain ⟨rfl, rfl⟩ := trodVars_none hV
  have k0 := h0
  have lt0 : ∀ x ∈ p0, x.block < W.heap.size := by obtain ⟨m, hm⟩ := k0; exact DataW.trod_lt m _ _ _ hm
  obtain ⟨A0, c0, l0, rfl, hl0, hm0, rd0, by0⟩ := open_bytes Try.underlying33 Try.underlying5 (by kernel_rfl) (hval 0 33 v0 rfl rfl) h0
  clear hA0 hval0
  refine (walk A0 c0 l0 W hl0 hm0 rd0 by0).mono fun e W' ⟨he, bel⟩ => ?_
  subst he
  exact ⟨_, rfl, _, _, _, [], _, [], hW', trodAll_mk1 (shut_bool Try.underlying4 _), (trodAll_cons_mk (Below.trod laid_out (by kernel_rfl) (of_decide_eq_true (by kernel_rfl)) k0 bel lt0) trodAll_mk0), rfl, bel.frame _, fun h => by cases h⟩
theorem over : Rows.fnThinWriteRow.holds Try.pinned (OpenSpec.ofChange Rows.fnThinWriteSpec) :=
  OpenClaim.holds_of_wide 6 Try.f6 rfl rfl rfl rfl rfl rfl rfl ⟨rfl, rfl, rfl, rfl, rfl⟩ rfl rfl rfl rfl rfl (by kernel_rfl) Try.func6 (by kernel_rfl)
    (of_decide_eq_true (by kernel_rfl)) (by unfold Func.isWrapper; first | (rw [if_pos (by decide +kernel)]; kernel_rfl) | (rw [if_neg (by decide +kernel)]; exact ⟨rfl, rfl⟩))
    (fun os started H enc _ => lifted os started H enc)
theorem proved : Rows.FnThinWriteSaid := over
end LwTw
end Go.Proofs.Ytkejdgegkbfofaa
