/-
  FnFlashWrite: the view after writing is the view before with the value at the logical page; the flash memory stays valid; at most one block is erased. No condition.
-/
import Derived.Test.YtnnanknljpkdeaaBase
import Derived.Test.YtnnanknljpkdeaaNum
import Derived.Test.YtnnanknljpkdeaaInts
import Derived.Test.YtnnanknljpkdeaaApp
import Derived.Test.YtnnanknljpkdeaaIntsW
import Derived.Test.YtnnanknljpkdeaaLib
import Derived.Test.YtnnanknljpkdeaaSpares
import Derived.Test.YtnnanknljpkdeaaOwn
import Derived.Test.YtnnanknljpkdeaaPage
import Derived.Test.YtnnanknljpkdeaaFlash
import Derived.Test.YtnnanknljpkdeaaFlashM
import Derived.Test.YtnnanknljpkdeaaFlashC
import Derived.Test.YtnnanknljpkdeaaFlashD
import Derived.Test.YtnnanknljpkdeaaFlashV
import Derived.Test.YtnnanknljpkdeaaThinC
import Derived.Test.YtnnanknljpkdeaaFlashW
import Derived.Test.YtnnanknljpkdeaaFlashN
import Derived.Test.YtnnanknljpkdeaaFlashX
import Derived.Test.YtnnanknljpkdeaaFlashY
import Derived.Test.YtnnanknljpkdeaaFlashZ
import Derived.Test.YtnnanknljpkdeaaFlashCB
import Derived.Test.YtnnanknljpkdeaaFlashWB
import Derived.Test.YtnnanknljpkdeaaFlashP
import Derived.Test.YtnnanknljpkdeaaFlashQ
import Derived.Test.YtnnanknljpkdeaaCopyB
import Derived.Test.YtnnanknljpkdeaaWriteS
import Derived.Test.YtnnanknljpkdeaaDraw
import Derived.Test.YtnnanknljpkdeaaDrawK
import Derived.Test.YtnnanknljpkdeaaDrawD
import Derived.Test.YtnnanknljpkdeaaNewP
import Derived.Test.YtnnanknljpkdeaaKept
import Derived.Test.YtnnanknljpkdeaaDrawFl
import Derived.Test.YtnnanknljpkdeaaDrawFx
import Derived.Test.YtnnanknljpkdeaaSameF
import Derived.Test.YtnnanknljpkdeaaOpen
import Derived.IntWalk
namespace Go.Proofs.Ytnnanknljpkdeaa
open Go.RowKit Go.ChangeShapes Go.WideShapes Go.ChangeAt Go.Deep Go.Joins
namespace LwFwr
theorem write1_srd {A : Option Addr} {c : Nat} {d vs : List Int} (k : Nat) (y : Int) {B : Option Addr} {cv : Nat} {w : World} (hvs : vs = d.set k y) (ha : SRd eInt w (.slice A d.length c) d) (hb : Rd eInt w B [y]) (hd : diskB d = true) (hk : k < d.length) (hv : 0 ≤ y ∧ y ≤ 255) :
    Calls Try.prog 45 #[.slice A d.length c, .int .i64 k, .slice B 1 cv] w (MadeS eInt 3 vs w) := by
  obtain ⟨A', c', he, hr, _, _, hn⟩ := ha
  injection he with h1 h2 h3
  subst h1 h3
  rw [hvs]
  exact (implWrite1_c A c d k y B cv w hr hn hb hd hk hv).mono MadeS.of_fresh
set_option maxHeartbeats 8000000 in
theorem walk (A : Option Addr) (c : Nat) (l : List Int) (w : World) (hl : l.length ≤ c) (hm : c ≤ maxLen) (hr : Rd eByte w A l) (hb : ∀ x ∈ l, 0 ≤ x ∧ x ≤ 255) :
    Calls Try.prog 13 #[.slice A l.length c] w fun e w' => e = .returned (.bool true) ∧ Below w.heap.size w w' := by
  have HB := Lib.hid hb
  clear hb
  by_cases hsz : (1048576 : Int) < l.length
  · unfold maxLen at hm
    go_enter Try.func13, Try.ntmps13
    go_wp2
    go_ret
    exact ⟨rfl, (by repeat (first | with_reducible exact Below.refl _ _ | with_reducible assumption | with_reducible refine below_drewN ?_ _ | with_reducible refine Below.drew ?_ | with_reducible refine Below.alloc ?_ ?_ _ | with_reducible refine Below.setCell ?_ ?_ _ | (with_reducible refine Below.next ?_ (by assumption)) | omega | (focus (simp; omega)) | (focus (simp; done))))⟩
  go_enter Try.func13, Try.ntmps13
  go_wp2_with fail
  refine (drawFwr_any A c l _ hl hm hr HB.out).mono ?_
  rintro e w1 ⟨y0, y1, f, n, v, rfl, ⟨n0, n1⟩, ⟨v0, v1⟩, hrd1, ⟨hfp, hfe⟩, hsm, hb1⟩
  obtain ⟨A0, c0, A1, c1, rfl, rfl⟩ := flashRd_lens hrd1
  have HSM := Lib.hid hsm
  have hz1 := hb1.size
  have HB1 := Lib.hid hb1
  have HF1 := Lib.hid hrd1
  have hszs : Hid (sizeFlash f ≤ 1099511627776) := Lib.hid (by unfold sizeFlash; omega)
  have LS := Loc.newAt w1 [.slice A0 f.pages.length c0, .slice A1 f.erases.length c1] 30 (b := w1.heap.size) rfl
  clear hb1 hrd1 hsm hsz
  obtain ⟨x, hx⟩ : ∃ x, x = writeB f n v := ⟨_, rfl⟩
  have HXD := Lib.hid hx
  have hxs : sizeFlash x ≤ sizeFlash f := by rw [hx]; exact writeB_size f n v
  have hxsz : Hid (sizeFlash x ≤ 1099511627776) := Lib.hid (Nat.le_trans hxs hszs.out)
  have hxl : x.pages.length ≤ 20 ∧ x.erases.length ≤ 20 := by unfold sizeFlash at hxs; omega
  obtain ⟨hxp, hxe⟩ := hxl
  clear hx hxs
  go_wp2_with fail
  refine (implWrite_c _ _ f n v _ (FlashRd.below HF1.out (by repeat (first | with_reducible exact Below.refl _ _ | with_reducible refine below_drewN ?_ _ | with_reducible refine Below.drew ?_ | with_reducible refine Below.alloc ?_ ?_ _ | with_reducible refine Below.setCell ?_ ?_ _ | omega | (focus (simp; omega)) | (focus (simp; done))))) hszs.out).mono ?_
  rw [← HXD.out]
  rintro e w2 ⟨q0, q1, rfl, O2, hb2⟩
  obtain ⟨B0, d0, B1, d1, rfl, rfl⟩ := flashRd_lens (FlashOwn.rd O2)
  have LS2 := Loc.carryB LS (fun h => by ((repeat (first | with_reducible exact h | with_reducible refine Loc.drew ?_ | with_reducible refine Loc.drewN ?_ _ | with_reducible refine Loc.alloc ?_ _)); done)) hb2
  have zS_2 := LS2.lt
  have HB2 : Hid (Below w.heap.size w w2) := Lib.hid (Below.next (W := w) (by repeat (first | with_reducible exact HB1.out | with_reducible exact Below.refl _ _ | with_reducible refine below_drewN ?_ _ | with_reducible refine Below.drew ?_ | with_reducible refine Below.alloc ?_ ?_ _ | with_reducible refine Below.setCell ?_ ?_ _ | (with_reducible refine Below.next ?_ (by assumption)) | ((with_reducible refine Below.far' (by assumption) ?_ ?_ ?_); (focus (first | omega | (simp; omega) | (simp; done))); (focus (first | omega | (simp; omega) | (simp; done)))) | omega | (focus (simp; omega)) | (focus (simp; done)))) hb2)
  have HF2 := Lib.hid (FlashRd.below HF1.out (Below.next (by repeat (first | with_reducible exact Below.refl _ _ | with_reducible refine below_drewN ?_ _ | with_reducible refine Below.drew ?_ | with_reducible refine Below.alloc ?_ ?_ _ | with_reducible refine Below.setCell ?_ ?_ _ | omega | (focus (simp; omega)) | (focus (simp; done)))) hb2))
  have hz2 := hb2.size
  (try simp at hz2)
  have HX2 := Lib.hid (FlashOwn.rd O2)
  have LX2 := Loc.newAt w2 [.slice B0 x.pages.length d0, .slice B1 x.erases.length d1] 30 (b := w2.heap.size) rfl
  have LSa := Loc.alloc LS2 (.cells #[.slice B0 x.pages.length d0, .slice B1 x.erases.length d1] 30)
  clear hb2 O2 LS
  obtain ⟨s0, s1, sf⟩ := LSa.two
  obtain ⟨r0, r1, rf⟩ := LX2.two
  go_wp2_with fail
  go_region_held3 (fun w' => w'.cell? ⟨w1.heap.size, 0, none⟩ = some (.slice A0 f.pages.length c0) ∧ w'.cell? ⟨w1.heap.size, 1, none⟩ = some (.slice A1 f.erases.length c1) ∧ w'.cell? ⟨w2.heap.size, 0, none⟩ = some (.slice B0 x.pages.length d0) ∧ w'.cell? ⟨w2.heap.size, 1, none⟩ = some (.slice B1 x.erases.length d1)) (first | (with_reducible assumption) | (refine ⟨?_, ?_, ?_, ?_⟩ <;> with_reducible assumption) | go_keep | (refine ⟨?_, ?_, ?_, ?_⟩ <;> (simp [go_sem, *]; done))) (first
    | (go_at_call 44; go_must ((with_reducible refine (specWrite_c _ _ f n v _ (FlashRd.below HF2.out (by repeat (first | with_reducible exact Below.refl _ _ | with_reducible refine below_drewN ?_ _ | with_reducible refine Below.drew ?_ | with_reducible refine Below.alloc ?_ ?_ _ | with_reducible refine Below.setCell ?_ ?_ _ | omega | (focus (simp; omega)) | (focus (simp; done))))) hszs.out).mono ?_); rw [← HXD.out]; rintro e w3 ⟨p0, p1, rfl, O3, hb3⟩; have H3 := Lib.hid (FlashOwn.rd O3); have LS3 := Loc.carryB LS2 (fun h => by ((repeat (first | with_reducible exact h | with_reducible refine Loc.drew ?_ | with_reducible refine Loc.drewN ?_ _ | with_reducible refine Loc.alloc ?_ _)); done)) hb3; obtain ⟨s0_3, s1_3, sf_3⟩ := LS3.two; have zS_3 := LS3.lt; have LX3 := Loc.carryB LX2 (fun h => by ((repeat (first | with_reducible exact h | with_reducible refine Loc.drew ?_ | with_reducible refine Loc.drewN ?_ _ | with_reducible refine Loc.alloc ?_ _)); done)) hb3; obtain ⟨r0_3, r1_3, rf_3⟩ := LX3.two; have zX_3 := LX3.lt; have HB3 : Hid (Below w.heap.size w w3) := Lib.hid (Below.next (W := w) (by repeat (first | with_reducible exact HB2.out | with_reducible exact Below.refl _ _ | with_reducible refine below_drewN ?_ _ | with_reducible refine Below.drew ?_ | with_reducible refine Below.alloc ?_ ?_ _ | with_reducible refine Below.setCell ?_ ?_ _ | (with_reducible refine Below.next ?_ (by assumption)) | ((with_reducible refine Below.far' (by assumption) ?_ ?_ ?_); (focus (first | omega | (simp; omega) | (simp; done))); (focus (first | omega | (simp; omega) | (simp; done)))) | omega | (focus (simp; omega)) | (focus (simp; done)))) hb3); have HF3 := Lib.hid (FlashRd.below HF2.out (Below.next (by repeat (first | with_reducible exact Below.refl _ _ | with_reducible refine below_drewN ?_ _ | with_reducible refine Below.drew ?_ | with_reducible refine Below.alloc ?_ ?_ _ | with_reducible refine Below.setCell ?_ ?_ _ | omega | (focus (simp; omega)) | (focus (simp; done)))) hb3)); have HX3 := Lib.hid (FlashRd.below HX2.out (Below.next (by repeat (first | with_reducible exact Below.refl _ _ | with_reducible refine below_drewN ?_ _ | with_reducible refine Below.drew ?_ | with_reducible refine Below.alloc ?_ ?_ _ | with_reducible refine Below.setCell ?_ ?_ _ | omega | (focus (simp; omega)) | (focus (simp; done)))) hb3)); have hz3 := hb3.size; (try simp at hz3); clear O3 hb3))
    | (go_at_call 35; go_must ((with_reducible refine (sameFlash_c _ _ _ _ x _ (FlashRd.below HX3.out (by repeat (first | with_reducible exact Below.refl _ _ | with_reducible refine below_drewN ?_ _ | with_reducible refine Below.drew ?_ | with_reducible refine Below.alloc ?_ ?_ _ | with_reducible refine Below.setCell ?_ ?_ _ | omega | (focus (simp; omega)) | (focus (simp; done))))) (FlashRd.below H3.out (by repeat (first | with_reducible exact Below.refl _ _ | with_reducible refine below_drewN ?_ _ | with_reducible refine Below.drew ?_ | with_reducible refine Below.alloc ?_ ?_ _ | with_reducible refine Below.setCell ?_ ?_ _ | omega | (focus (simp; omega)) | (focus (simp; done))))) hxsz.out).mono ?_); rintro e w4 ⟨rfl, hb4⟩; have LS4 := Loc.carryB LS3 (fun h => by ((repeat (first | with_reducible exact h | with_reducible refine Loc.drew ?_ | with_reducible refine Loc.drewN ?_ _ | with_reducible refine Loc.alloc ?_ _)); done)) hb4; obtain ⟨s0_4, s1_4, sf_4⟩ := LS4.two; have zS_4 := LS4.lt; have LX4 := Loc.carryB LX3 (fun h => by ((repeat (first | with_reducible exact h | with_reducible refine Loc.drew ?_ | with_reducible refine Loc.drewN ?_ _ | with_reducible refine Loc.alloc ?_ _)); done)) hb4; obtain ⟨r0_4, r1_4, rf_4⟩ := LX4.two; have zX_4 := LX4.lt; have HB4 : Hid (Below w.heap.size w w4) := Lib.hid (Below.next (W := w) (by repeat (first | with_reducible exact HB3.out | with_reducible exact Below.refl _ _ | with_reducible refine below_drewN ?_ _ | with_reducible refine Below.drew ?_ | with_reducible refine Below.alloc ?_ ?_ _ | with_reducible refine Below.setCell ?_ ?_ _ | (with_reducible refine Below.next ?_ (by assumption)) | ((with_reducible refine Below.far' (by assumption) ?_ ?_ ?_); (focus (first | omega | (simp; omega) | (simp; done))); (focus (first | omega | (simp; omega) | (simp; done)))) | omega | (focus (simp; omega)) | (focus (simp; done)))) hb4); have HF4 := Lib.hid (FlashRd.below HF3.out (Below.next (by repeat (first | with_reducible exact Below.refl _ _ | with_reducible refine below_drewN ?_ _ | with_reducible refine Below.drew ?_ | with_reducible refine Below.alloc ?_ ?_ _ | with_reducible refine Below.setCell ?_ ?_ _ | omega | (focus (simp; omega)) | (focus (simp; done)))) hb4)); have HX4 := Lib.hid (FlashRd.below HX3.out (Below.next (by repeat (first | with_reducible exact Below.refl _ _ | with_reducible refine below_drewN ?_ _ | with_reducible refine Below.drew ?_ | with_reducible refine Below.alloc ?_ ?_ _ | with_reducible refine Below.setCell ?_ ?_ _ | omega | (focus (simp; omega)) | (focus (simp; done)))) hb4)); have hz4 := hb4.size; (try simp at hz4); clear hb4)))
  clear s0 s1 sf r0 r1 rf LSa LS2 LX2 LS3 LX3 HF1 HF2 HF3 HX2 HX3 H3 HB1 HB2 HB3 s0_3 s1_3 sf_3 r0_3 r1_3 rf_3
  by_cases h0 : x.pages.length = 0
  · have h0' : ((x.pages.length : Int) == 0) = true := by simp [h0]
    clear h0
    go_wp2_with (go_at_call 28; refine (alive_any _).mono ?_; rintro e w6 ⟨rfl, hb6⟩)
    go_ret
    exact ⟨rfl, Below.next (W := w) HB4.out hb6⟩
  · have h0' : ((x.pages.length : Int) == 0) = false := by rw [beq_eq_false_iff_ne]; omega
    have hargs : writeArgs f n v = true := by
      cases ha : writeArgs f n v
      · rw [HXD.out, writeB_no ha] at h0; simp at h0
      · rfl
    obtain ⟨hfv, ⟨k0, k1⟩, hv255, hwr⟩ := write_facts hargs (fun y hy => by have := (HSM.out y hy).2; omega)
    rw [← HXD.out] at hwr
    obtain ⟨hok, hview, hwear, hers, hbig⟩ := hwr
    obtain ⟨k, rfl⟩ := Int.eq_ofNat_of_zero_le k0
    obtain ⟨vx, hvx⟩ : ∃ vx, vx = viewF x := ⟨_, rfl⟩
    obtain ⟨vf, hvf⟩ : ∃ vf, vf = viewF f := ⟨_, rfl⟩
    have hdd := viewF_disk hfv
    rw [← hvx, ← hvf, Int.toNat_natCast] at hview
    rw [← hvf] at hdd k1
    have HVX := Lib.hid hvx
    have HVF := Lib.hid hvf
    have HVW := Lib.hid hview
    have HDD := Lib.hid hdd
    have HV2 := Lib.hid hv255
    have HOKX := Lib.hid hok
    have hkd : k < vf.length := by omega
    have hfl : vf.length ≤ 64 := (diskB_true.1 hdd).1
    have hxl : vx.length ≤ 64 := by rw [hview, List.length_set]; exact hfl
    have HBG := Lib.hid hbig
    have hxe1 : f.erases.length ≤ x.erases.length := by omega
    have hxe2 : x.erases.length ≤ f.erases.length := by omega
    have HWE : Hid (0 ≤ x.erases.sum - f.erases.sum ∧ x.erases.sum - f.erases.sum ≤ 1) := Lib.hid hwear
    have HEF := Lib.hid (FlashRd.ers HF4.out)
    have HEX := Lib.hid (FlashRd.ers HX4.out)
    clear hargs hfv hdd hview hvx hvf hv255 hok hbig hers hwear h0 k0 k1
    go_wp2
    go_loopw [7, 8] (fun s i wr => ∃ j : Nat, j ≤ f.erases.length ∧ i = .int .i64 j ∧ s = .int .i64 (sumTo x.erases j - sumTo f.erases j) ∧ ∃ q, wr = w4.drewN q) (fun _ i _ => f.erases.length - (intOf i).toNat)
    case atStart => exact ⟨0, Nat.zero_le _, rfl, by rw [sumTo_zero, sumTo_zero]; rfl, 0, rfl⟩
    case round =>
      obtain ⟨j, hj, rfl, rfl, q, rfl⟩ := hrel
      by_cases hjl : j < f.erases.length
      · have hjx : j < x.erases.length := by omega
        obtain ⟨b1, o1, rfl, hbl1, hcf⟩ := HEF.out.int hjl
        obtain ⟨b2, o2, rfl, hbl2, hcx⟩ := HEX.out.int hjx
        have HS1 := Lib.hid (sumTo_succ hjl)
        have HS2 := Lib.hid (sumTo_succ hjx)
        have hs1 := sumTo_in HSM.out j hj
        have hs2 := sumTo_in HBG.out j (by omega)
        have hy1 := HSM.out _ (List.getElem_mem hjl)
        have hy2 := HBG.out _ (List.getElem_mem hjx)
        obtain ⟨y1, hye1⟩ : ∃ y, y = f.erases[j]'hjl := ⟨_, rfl⟩
        obtain ⟨y2, hye2⟩ : ∃ y, y = x.erases[j]'hjx := ⟨_, rfl⟩
        obtain ⟨u1, hue1⟩ : ∃ y, y = sumTo f.erases j := ⟨_, rfl⟩
        obtain ⟨u2, hue2⟩ : ∃ y, y = sumTo x.erases j := ⟨_, rfl⟩
        rw [← hye1] at hcf hy1
        rw [← hye2] at hcx hy2
        rw [← hue1] at hs1
        rw [← hue2] at hs2
        rw [← hye1, ← hue1] at HS1
        rw [← hye2, ← hue2] at HS2
        rw [← hue1, ← hue2]
        obtain ⟨hy10, hy11⟩ := hy1
        obtain ⟨hy20, hy21⟩ := hy2
        obtain ⟨hs10, hs11⟩ := hs1
        obtain ⟨hs20, hs21⟩ := hs2
        have hww1 := IntWalk.i64_in (u2 - u1 + y2) (by omega)
        have hww2 := IntWalk.i64_in (u2 - u1 + y2 - y1) (by omega)
        clear hye1 hye2 hue1 hue2
        go_wp2
        go_quiet (fail)
        go_wp2
        go_roundw
        case rel => exact ⟨j + 1, by omega, by go_num, by rw [HS1.out, HS2.out]; congr 1; omega, _, rfl⟩
        case measure => simp [intOf]; omega
      · have hse : sumTo x.erases j - sumTo f.erases j = x.erases.sum - f.erases.sum := by rw [sumTo_all (by omega), sumTo_all (by omega)]
        rw [hse]
        have hwe := HWE.out
        obtain ⟨we, hwee⟩ : ∃ we, we = x.erases.sum - f.erases.sum := ⟨_, rfl⟩
        rw [← hwee] at hwe ⊢
        obtain ⟨hwe0, hwe1⟩ := hwe
        clear hse hwee
        go_wp2_with fail
        go_region_held3 (fun w' => w'.cell? ⟨w1.heap.size, 0, none⟩ = some (.slice A0 f.pages.length c0) ∧ w'.cell? ⟨w1.heap.size, 1, none⟩ = some (.slice A1 f.erases.length c1) ∧ w'.cell? ⟨w2.heap.size, 0, none⟩ = some (.slice B0 x.pages.length d0) ∧ w'.cell? ⟨w2.heap.size, 1, none⟩ = some (.slice B1 x.erases.length d1)) (first | (with_reducible assumption) | (refine ⟨?_, ?_, ?_, ?_⟩ <;> with_reducible assumption) | go_keep | (refine ⟨?_, ?_, ?_, ?_⟩ <;> (simp [go_sem, *]; done))) (first
          | (go_at_call 19; go_must ((with_reducible refine (implFlash_c _ _ x _ (FlashRd.below HX4.out (by repeat (first | with_reducible exact Below.refl _ _ | with_reducible refine below_drewN ?_ _ | with_reducible refine Below.drew ?_ | with_reducible refine Below.alloc ?_ ?_ _ | with_reducible refine Below.setCell ?_ ?_ _ | omega | (focus (simp; omega)) | (focus (simp; done))))) hxsz.out).mono ?_); rw [HOKX.out]; rintro e w6 ⟨rfl, hb6⟩; have LS6 := Loc.carryB LS4 (fun h => by ((repeat (first | with_reducible exact h | with_reducible refine Loc.drew ?_ | with_reducible refine Loc.drewN ?_ _ | with_reducible refine Loc.alloc ?_ _)); done)) hb6; obtain ⟨s0_6, s1_6, sf_6⟩ := LS6.two; have zS_6 := LS6.lt; have LX6 := Loc.carryB LX4 (fun h => by ((repeat (first | with_reducible exact h | with_reducible refine Loc.drew ?_ | with_reducible refine Loc.drewN ?_ _ | with_reducible refine Loc.alloc ?_ _)); done)) hb6; obtain ⟨r0_6, r1_6, rf_6⟩ := LX6.two; have zX_6 := LX6.lt; have HB6 : Hid (Below w.heap.size w w6) := Lib.hid (Below.next (W := w) (by repeat (first | with_reducible exact HB4.out | with_reducible exact Below.refl _ _ | with_reducible refine below_drewN ?_ _ | with_reducible refine Below.drew ?_ | with_reducible refine Below.alloc ?_ ?_ _ | with_reducible refine Below.setCell ?_ ?_ _ | (with_reducible refine Below.next ?_ (by assumption)) | ((with_reducible refine Below.far' (by assumption) ?_ ?_ ?_); (focus (first | omega | (simp; omega) | (simp; done))); (focus (first | omega | (simp; omega) | (simp; done)))) | omega | (focus (simp; omega)) | (focus (simp; done)))) hb6); have HF6 := Lib.hid (FlashRd.below HF4.out (Below.next (by repeat (first | with_reducible exact Below.refl _ _ | with_reducible refine below_drewN ?_ _ | with_reducible refine Below.drew ?_ | with_reducible refine Below.alloc ?_ ?_ _ | with_reducible refine Below.setCell ?_ ?_ _ | omega | (focus (simp; omega)) | (focus (simp; done)))) hb6)); have HX6 := Lib.hid (FlashRd.below HX4.out (Below.next (by repeat (first | with_reducible exact Below.refl _ _ | with_reducible refine below_drewN ?_ _ | with_reducible refine Below.drew ?_ | with_reducible refine Below.alloc ?_ ?_ _ | with_reducible refine Below.setCell ?_ ?_ _ | omega | (focus (simp; omega)) | (focus (simp; done)))) hb6)); have hz6 := hb6.size; (try simp at hz6); clear hb6))
          | (go_at_call 30; (with_reducible refine (implView_c (.slice B0 x.pages.length d0) _ x _ (FlashRd.below HX6.out (by repeat (first | with_reducible exact Below.refl _ _ | with_reducible refine below_drewN ?_ _ | with_reducible refine Below.drew ?_ | with_reducible refine Below.alloc ?_ ?_ _ | with_reducible refine Below.setCell ?_ ?_ _ | omega | (focus (simp; omega)) | (focus (simp; done))))) hxsz.out).mono ?_); go_must (rw [← HVX.out]; rintro e w7 ⟨u7, rfl, o7, hb7⟩; obtain ⟨A7, c7, gg7, rfl, -, -⟩ := id o7; have LS7 := Loc.carryB LS6 (fun h => by ((repeat (first | with_reducible exact h | with_reducible refine Loc.drew ?_ | with_reducible refine Loc.drewN ?_ _ | with_reducible refine Loc.alloc ?_ _)); done)) hb7; obtain ⟨s0_7, s1_7, sf_7⟩ := LS7.two; have zS_7 := LS7.lt; have LX7 := Loc.carryB LX6 (fun h => by ((repeat (first | with_reducible exact h | with_reducible refine Loc.drew ?_ | with_reducible refine Loc.drewN ?_ _ | with_reducible refine Loc.alloc ?_ _)); done)) hb7; obtain ⟨r0_7, r1_7, rf_7⟩ := LX7.two; have zX_7 := LX7.lt; have HB7 : Hid (Below w.heap.size w w7) := Lib.hid (Below.next (W := w) (by repeat (first | with_reducible exact HB6.out | with_reducible exact Below.refl _ _ | with_reducible refine below_drewN ?_ _ | with_reducible refine Below.drew ?_ | with_reducible refine Below.alloc ?_ ?_ _ | with_reducible refine Below.setCell ?_ ?_ _ | (with_reducible refine Below.next ?_ (by assumption)) | ((with_reducible refine Below.far' (by assumption) ?_ ?_ ?_); (focus (first | omega | (simp; omega) | (simp; done))); (focus (first | omega | (simp; omega) | (simp; done)))) | omega | (focus (simp; omega)) | (focus (simp; done)))) hb7); have HF7 := Lib.hid (FlashRd.below HF6.out (Below.next (by repeat (first | with_reducible exact Below.refl _ _ | with_reducible refine below_drewN ?_ _ | with_reducible refine Below.drew ?_ | with_reducible refine Below.alloc ?_ ?_ _ | with_reducible refine Below.setCell ?_ ?_ _ | omega | (focus (simp; omega)) | (focus (simp; done)))) hb7)); have HX7 := Lib.hid (FlashRd.below HX6.out (Below.next (by repeat (first | with_reducible exact Below.refl _ _ | with_reducible refine below_drewN ?_ _ | with_reducible refine Below.drew ?_ | with_reducible refine Below.alloc ?_ ?_ _ | with_reducible refine Below.setCell ?_ ?_ _ | omega | (focus (simp; omega)) | (focus (simp; done)))) hb7)); have hz7 := hb7.size; (try simp at hz7); have H7 := Lib.hid (SOwn.rd o7); clear o7))
          | (go_at_call 30; (with_reducible refine (implView_c (.slice A0 f.pages.length c0) _ f _ (FlashRd.below HF7.out (by repeat (first | with_reducible exact Below.refl _ _ | with_reducible refine below_drewN ?_ _ | with_reducible refine Below.drew ?_ | with_reducible refine Below.alloc ?_ ?_ _ | with_reducible refine Below.setCell ?_ ?_ _ | omega | (focus (simp; omega)) | (focus (simp; done))))) hszs.out).mono ?_); go_must (rw [← HVF.out]; rintro e w8 ⟨u8, rfl, o8, hb8⟩; obtain ⟨A8, c8, gg8, rfl, -, -⟩ := id o8; have LS8 := Loc.carryB LS7 (fun h => by ((repeat (first | with_reducible exact h | with_reducible refine Loc.drew ?_ | with_reducible refine Loc.drewN ?_ _ | with_reducible refine Loc.alloc ?_ _)); done)) hb8; obtain ⟨s0_8, s1_8, sf_8⟩ := LS8.two; have zS_8 := LS8.lt; have LX8 := Loc.carryB LX7 (fun h => by ((repeat (first | with_reducible exact h | with_reducible refine Loc.drew ?_ | with_reducible refine Loc.drewN ?_ _ | with_reducible refine Loc.alloc ?_ _)); done)) hb8; obtain ⟨r0_8, r1_8, rf_8⟩ := LX8.two; have zX_8 := LX8.lt; have HB8 : Hid (Below w.heap.size w w8) := Lib.hid (Below.next (W := w) (by repeat (first | with_reducible exact HB7.out | with_reducible exact Below.refl _ _ | with_reducible refine below_drewN ?_ _ | with_reducible refine Below.drew ?_ | with_reducible refine Below.alloc ?_ ?_ _ | with_reducible refine Below.setCell ?_ ?_ _ | (with_reducible refine Below.next ?_ (by assumption)) | ((with_reducible refine Below.far' (by assumption) ?_ ?_ ?_); (focus (first | omega | (simp; omega) | (simp; done))); (focus (first | omega | (simp; omega) | (simp; done)))) | omega | (focus (simp; omega)) | (focus (simp; done)))) hb8); have HF8 := Lib.hid (FlashRd.below HF7.out (Below.next (by repeat (first | with_reducible exact Below.refl _ _ | with_reducible refine below_drewN ?_ _ | with_reducible refine Below.drew ?_ | with_reducible refine Below.alloc ?_ ?_ _ | with_reducible refine Below.setCell ?_ ?_ _ | omega | (focus (simp; omega)) | (focus (simp; done)))) hb8)); have HX8 := Lib.hid (FlashRd.below HX7.out (Below.next (by repeat (first | with_reducible exact Below.refl _ _ | with_reducible refine below_drewN ?_ _ | with_reducible refine Below.drew ?_ | with_reducible refine Below.alloc ?_ ?_ _ | with_reducible refine Below.setCell ?_ ?_ _ | omega | (focus (simp; omega)) | (focus (simp; done)))) hb8)); have hz8 := hb8.size; (try simp at hz8); have H8 := Lib.hid (SOwn.rd o8); have H78 := Lib.hid (SRd.below H7.out (Below.next (by repeat (first | with_reducible exact Below.refl _ _ | with_reducible refine below_drewN ?_ _ | with_reducible refine Below.drew ?_ | with_reducible refine Below.alloc ?_ ?_ _ | with_reducible refine Below.setCell ?_ ?_ _ | omega | (focus (simp; omega)) | (focus (simp; done)))) hb8)); clear o8))
          | (go_at_call 45; go_must ((with_reducible refine (write1_srd k v HVW.out (SRd.below H8.out (by repeat (first | with_reducible exact Below.refl _ _ | with_reducible refine below_drewN ?_ _ | with_reducible refine Below.drew ?_ | with_reducible refine Below.alloc ?_ ?_ _ | with_reducible refine Below.setCell ?_ ?_ _ | omega | (focus (simp; omega)) | (focus (simp; done))))) ?_ HDD.out hkd HV2.out).mono ?_); (focus (exact (by repeat (first | ((with_reducible refine Rd.lit ?_ ?_); (focus (first | with_reducible rfl | omega | (simp; omega) | (simp; done))); (focus (first | rfl | (simp; rfl) | (simp; done)))) | with_reducible refine Rd.drew ?_ | with_reducible refine Rd.drewN ?_ _ | with_reducible refine Rd.alloc ?_ _ | (with_reducible refine Rd.below ?_ (by assumption)))))); rintro e w9 ⟨u9, rfl, o9, hb9⟩; obtain ⟨A9, c9, gg9, rfl, -, -⟩ := id o9; have LS9 := Loc.carryB LS8 (fun h => by ((repeat (first | with_reducible exact h | with_reducible refine Loc.drew ?_ | with_reducible refine Loc.drewN ?_ _ | with_reducible refine Loc.alloc ?_ _)); done)) hb9; obtain ⟨s0_9, s1_9, sf_9⟩ := LS9.two; have zS_9 := LS9.lt; have LX9 := Loc.carryB LX8 (fun h => by ((repeat (first | with_reducible exact h | with_reducible refine Loc.drew ?_ | with_reducible refine Loc.drewN ?_ _ | with_reducible refine Loc.alloc ?_ _)); done)) hb9; obtain ⟨r0_9, r1_9, rf_9⟩ := LX9.two; have zX_9 := LX9.lt; have HB9 : Hid (Below w.heap.size w w9) := Lib.hid (Below.next (W := w) (by repeat (first | with_reducible exact HB8.out | with_reducible exact Below.refl _ _ | with_reducible refine below_drewN ?_ _ | with_reducible refine Below.drew ?_ | with_reducible refine Below.alloc ?_ ?_ _ | with_reducible refine Below.setCell ?_ ?_ _ | (with_reducible refine Below.next ?_ (by assumption)) | ((with_reducible refine Below.far' (by assumption) ?_ ?_ ?_); (focus (first | omega | (simp; omega) | (simp; done))); (focus (first | omega | (simp; omega) | (simp; done)))) | omega | (focus (simp; omega)) | (focus (simp; done)))) hb9); have HF9 := Lib.hid (FlashRd.below HF8.out (Below.next (by repeat (first | with_reducible exact Below.refl _ _ | with_reducible refine below_drewN ?_ _ | with_reducible refine Below.drew ?_ | with_reducible refine Below.alloc ?_ ?_ _ | with_reducible refine Below.setCell ?_ ?_ _ | omega | (focus (simp; omega)) | (focus (simp; done)))) hb9)); have HX9 := Lib.hid (FlashRd.below HX8.out (Below.next (by repeat (first | with_reducible exact Below.refl _ _ | with_reducible refine below_drewN ?_ _ | with_reducible refine Below.drew ?_ | with_reducible refine Below.alloc ?_ ?_ _ | with_reducible refine Below.setCell ?_ ?_ _ | omega | (focus (simp; omega)) | (focus (simp; done)))) hb9)); have hz9 := hb9.size; (try simp at hz9); have H9 := Lib.hid (SOwn.rd o9); have H79 := Lib.hid (SRd.below H78.out (Below.next (by repeat (first | with_reducible exact Below.refl _ _ | with_reducible refine below_drewN ?_ _ | with_reducible refine Below.drew ?_ | with_reducible refine Below.alloc ?_ ?_ _ | with_reducible refine Below.setCell ?_ ?_ _ | omega | (focus (simp; omega)) | (focus (simp; done)))) hb9)); clear o9 hb9))
          | (go_at_call 38; go_must ((with_reducible refine (sameInts_v (.slice A7 vx.length c7) (.slice A9 vx.length c9) vx vx _ (SRd.below H79.out (by repeat (first | with_reducible exact Below.refl _ _ | with_reducible refine below_drewN ?_ _ | with_reducible refine Below.drew ?_ | with_reducible refine Below.alloc ?_ ?_ _ | with_reducible refine Below.setCell ?_ ?_ _ | omega | (focus (simp; omega)) | (focus (simp; done))))) (SRd.below H9.out (by repeat (first | with_reducible exact Below.refl _ _ | with_reducible refine below_drewN ?_ _ | with_reducible refine Below.drew ?_ | with_reducible refine Below.alloc ?_ ?_ _ | with_reducible refine Below.setCell ?_ ?_ _ | omega | (focus (simp; omega)) | (focus (simp; done))))) (by omega) (by omega)).mono ?_); rw [dec_refl]; rintro e w10 ⟨rfl, q10, rfl⟩)))
        all_goals
          go_wp2
          go_ret
          exact ⟨rfl, (by repeat (first | with_reducible exact HB9.out | with_reducible exact Below.refl _ _ | with_reducible refine below_drewN ?_ _ | with_reducible refine Below.drew ?_ | with_reducible refine Below.alloc ?_ ?_ _ | with_reducible refine Below.setCell ?_ ?_ _ | (with_reducible refine Below.next ?_ (by assumption)) | ((with_reducible refine Below.far' (by assumption) ?_ ?_ ?_); (focus (first | omega | (simp; omega) | (simp; done))); (focus (first | omega | (simp; omega) | (simp; done)))) | omega | (focus (simp; omega)) | (focus (simp; done))))⟩
set_option maxRecDepth 100000 in
theorem lifted (os : Os) (started : os.Started) (H : Type) (enc : TypeId × Value → H) :
    ReturnsInHanded {} Try.checked os 13 .any (Rows.fnFlashWriteSpec.pre6 enc Try.prog Try.f13 Rows.fnFlashWriteRow.domain false) (Rows.fnFlashWriteSpec.post enc Try.prog Try.f13 false true false false) := by
  refine returnsInHanded_of_change (C := Try.checked) own_knob started (by kernel_rfl) Try.func13
    (ChangeSpec.witness6 (enc := enc) (C := Try.checked) false ⟨#[], #[.slice none 0 0], []⟩ 8 (by kernel_rfl) (by kernel_rfl) (by kernel_rfl) (by kernel_rfl)) ?_
  intro W base args ds gs before hval0 hW hcnd _
  have hval : ∀ (j : Nat) t v, Try.f13.params[j]? = some t → args[j]? = some v → Value.okWide Try.prog W .any base t v := hval0
  have hW' := hW
  obtain ⟨p, q, hA0, hV, rfl, hfz, hnd⟩ := hW
  have hA : DataW.TrodAll enc Try.prog W 0 (fun _ => true) true Try.f13.params.toList args.toList ds p := hA0
  rw [Try.params13] at hA hval
  obtain ⟨v0, vs0, d0, ds0, p0, q0, hargs, rfl, rfl, h0, r0⟩ := trodAll_cons hA
  obtain ⟨rfl, rfl, rfl⟩ := trodAll_nil r0
  obtain rfl : args = #[v0] := by cases args; simp_all
  obtain ⟨rfl, rfl⟩ := trodVars_none hV
  have k0 := h0
  have lt0 : ∀ x ∈ p0, x.block < W.heap.size := by obtain ⟨m, hm⟩ := k0; exact DataW.trod_lt m _ _ _ hm
  obtain ⟨A0, c0, l0, rfl, hl0, hm0, rd0, by0⟩ := open_bytes Try.underlying38 Try.underlying5 (by kernel_rfl) (hval 0 38 v0 rfl rfl) h0
  clear hA0 hval0
  refine (walk A0 c0 l0 W hl0 hm0 rd0 by0).mono fun e W' ⟨he, bel⟩ => ?_
  subst he
  exact ⟨_, rfl, _, _, _, [], _, [], hW', trodAll_mk1 (shut_bool Try.underlying4 _), (trodAll_cons_mk (Below.trod laid_out (by kernel_rfl) (of_decide_eq_true (by kernel_rfl)) k0 bel lt0) trodAll_mk0), rfl, bel.frame _, fun h => by cases h⟩
theorem over : Rows.fnFlashWriteRow.holds Try.pinned (OpenSpec.ofChange Rows.fnFlashWriteSpec) :=
  OpenClaim.holds_of_wide 13 Try.f13 rfl rfl rfl rfl rfl rfl rfl ⟨rfl, rfl, rfl, rfl, rfl⟩ rfl rfl rfl rfl rfl (by kernel_rfl) Try.func13 (by kernel_rfl)
    (of_decide_eq_true (by kernel_rfl)) (by unfold Func.isWrapper; first | (rw [if_pos (by decide +kernel)]; kernel_rfl) | (rw [if_neg (by decide +kernel)]; exact ⟨rfl, rfl⟩))
    (fun os started H enc _ => lifted os started H enc)
theorem proved : Rows.FnFlashWriteSaid := over
end LwFwr
end Go.Proofs.Ytnnanknljpkdeaa
