/-
  FnCollectBlock: the view is unchanged; the number of free pages grows by that of the stale pages of the block; one block has been erased once more; and without stale pages nothing happens. No condition.
-/
import Derived.Test.YtnnanknljpkdeaaBase
import Derived.Test.YtnnanknljpkdeaaNum
import Derived.Test.YtnnanknljpkdeaaInts
import Derived.Test.YtnnanknljpkdeaaApp
import Derived.Test.YtnnanknljpkdeaaIntsW
import Derived.Test.YtnnanknljpkdeaaLib
import Derived.Test.YtnnanknljpkdeaaSpares
import Derived.Test.YtnnanknljpkdeaaOwn
import Derived.Test.YtnnanknljpkdeaaPage
import Derived.Test.YtnnanknljpkdeaaFlash
import Derived.Test.YtnnanknljpkdeaaFlashM
import Derived.Test.YtnnanknljpkdeaaFlashC
import Derived.Test.YtnnanknljpkdeaaFlashD
import Derived.Test.YtnnanknljpkdeaaFlashV
import Derived.Test.YtnnanknljpkdeaaThinC
import Derived.Test.YtnnanknljpkdeaaFlashW
import Derived.Test.YtnnanknljpkdeaaFlashN
import Derived.Test.YtnnanknljpkdeaaFlashX
import Derived.Test.YtnnanknljpkdeaaFlashY
import Derived.Test.YtnnanknljpkdeaaFlashZ
import Derived.Test.YtnnanknljpkdeaaFlashCB
import Derived.Test.YtnnanknljpkdeaaFlashWB
import Derived.Test.YtnnanknljpkdeaaFlashP
import Derived.Test.YtnnanknljpkdeaaFlashQ
import Derived.Test.YtnnanknljpkdeaaDraw
import Derived.Test.YtnnanknljpkdeaaDrawK
import Derived.Test.YtnnanknljpkdeaaDrawD
import Derived.Test.YtnnanknljpkdeaaNewP
import Derived.Test.YtnnanknljpkdeaaKept
import Derived.Test.YtnnanknljpkdeaaDrawFl
import Derived.Test.YtnnanknljpkdeaaDrawFx
import Derived.Test.YtnnanknljpkdeaaSameF
import Derived.Test.YtnnanknljpkdeaaOpen
import Derived.IntWalk
namespace Go.Proofs.Ytnnanknljpkdeaa
open Go.RowKit Go.ChangeShapes Go.WideShapes Go.ChangeAt Go.Deep Go.Joins
theorem own3 (o : Int) : ∃ (b c : Bool) (s t : Nat), (o == -2) = b ∧ (o == -1) = c ∧ (if o = -2 then 1 else 0) = s ∧ (if o = -1 then 1 else 0) = t ∧ ((b = true ∧ c = false ∧ s = 1 ∧ t = 0) ∨ (b = false ∧ c = true ∧ s = 0 ∧ t = 1) ∨ (b = false ∧ c = false ∧ s = 0 ∧ t = 0)) := by
  refine ⟨_, _, _, _, rfl, rfl, rfl, rfl, ?_⟩
  by_cases h : o = -2
  · subst h; exact .inl ⟨rfl, rfl, rfl, rfl⟩
  · by_cases h1 : o = -1
    · subst h1; exact .inr (.inl ⟨rfl, rfl, rfl, rfl⟩)
    · exact .inr (.inr ⟨by simpa using h, by simpa using h1, by simp [h], by simp [h1]⟩)
/-- the law's words of a collection -/
theorem collectB_facts {f : Fl} (hv : flashB f = true) (he : ∀ x ∈ f.erases, x ≤ 999999) : (collectB f).pages.length = f.pages.length ∧ (collectB f).erases.length = f.erases.length ∧ ((freeN (collectB f).pages : Int) - freeN f.pages = staleN f.pages - staleN (collectB f).pages) ∧ viewF (collectB f) = viewF f ∧ collectBOk f = decide (0 < staleN f.pages) ∧ (∀ y ∈ (collectB f).erases, 0 ≤ y ∧ y ≤ 1000000) ∧ (collectBOk f = true → (collectB f).erases.sum - f.erases.sum = 1 ∧ freeN f.pages < freeN (collectB f).pages) ∧ (collectBOk f = false → collectB f = f) := by
  have ok := flashB_iff.1 hv
  obtain ⟨e1, e2⟩ := collectB_yes hv
  obtain ⟨h1, h2, h3, h4, h5⟩ := collect_facts ok
  rw [e1, e2]
  refine ⟨h1, h2, h3, collect_view ok he, collectOk_iff ok, (ok.collect_ok he).ers, fun h => ⟨?_, (h4 h).2⟩, h5⟩
  have := (h4 h).1
  unfold wearN at this
  omega
namespace LwFc
set_option linter.unusedSimpArgs false in
set_option maxRecDepth 100000 in
set_option maxHeartbeats 40000000 in
theorem walk (A : Option Addr) (c : Nat) (l : List Int) (w : World) (hl : l.length ≤ c) (hm : c ≤ maxLen) (hr : Rd eByte w A l) (hb : ∀ x ∈ l, 0 ≤ x ∧ x ≤ 255) :
    Calls Try.prog 12 #[.slice A l.length c] w fun e w' => e = .returned (.bool true) ∧ Below w.heap.size w w' := by
  have HB := Lib.hid hb
  clear hb
  by_cases hsz : (1048576 : Int) < l.length
  · unfold maxLen at hm
    go_enter Try.func12, Try.ntmps12
    go_wp2
    go_ret
    exact ⟨rfl, (by repeat (first | with_reducible exact Below.refl _ _ | with_reducible assumption | with_reducible refine below_drewN ?_ _ | with_reducible refine Below.drew ?_ | with_reducible refine Below.alloc ?_ ?_ _ | with_reducible refine Below.setCell ?_ ?_ _ | (with_reducible refine Below.next ?_ (by assumption)) | omega | (focus (simp; omega)) | (focus (simp; done))))⟩
  go_enter Try.func12, Try.ntmps12
  go_wp2_with fail
  refine (drawFc_any A c l _ hl hm hr HB.out).mono ?_
  rintro e w1 ⟨y0, y1, f, rfl, hrd1, ⟨hfp, hfe⟩, hsm, hb1⟩
  obtain ⟨A0, c0, A1, c1, rfl, rfl⟩ := flashRd_lens hrd1
  have HSM := Lib.hid hsm
  have hz1 := hb1.size
  have HB1 := Lib.hid hb1
  have HF1 := Lib.hid hrd1
  have hszs : Hid (sizeFlash f ≤ 1099511627776) := Lib.hid (by unfold sizeFlash; omega)
  have LS := Loc.newAt w1 [.slice A0 f.pages.length c0, .slice A1 f.erases.length c1] 30 (b := w1.heap.size) rfl
  clear hb1 hrd1 hsm hsz
  obtain ⟨x, hx⟩ : ∃ x, x = collectB f := ⟨_, rfl⟩
  obtain ⟨ok, hok⟩ : ∃ ok, ok = collectBOk f := ⟨_, rfl⟩
  have HXD := Lib.hid hx
  have HOD := Lib.hid hok
  have hxs : sizeFlash x ≤ sizeFlash f := by rw [hx]; exact collectB_size f
  have hxsz : Hid (sizeFlash x ≤ 1099511627776) := Lib.hid (Nat.le_trans hxs hszs.out)
  have hxl : x.pages.length ≤ 20 ∧ x.erases.length ≤ 20 := by unfold sizeFlash at hxs; omega
  obtain ⟨hxp, hxe⟩ := hxl
  clear hx hok hxs
  go_wp2_with fail
  refine (implCollect_c _ _ f _ (FlashRd.below HF1.out (by repeat (first | with_reducible exact Below.refl _ _ | with_reducible refine below_drewN ?_ _ | with_reducible refine Below.drew ?_ | with_reducible refine Below.alloc ?_ ?_ _ | with_reducible refine Below.setCell ?_ ?_ _ | omega | (focus (simp; omega)) | (focus (simp; done))))) hszs.out).mono ?_
  rw [← HXD.out, ← HOD.out]
  rintro e w2 ⟨q0, q1, rfl, O2, hb2⟩
  obtain ⟨B0, d0, B1, d1, rfl, rfl⟩ := flashRd_lens (FlashOwn.rd O2)
  have LS2 := Loc.carryB LS (fun h => by ((repeat (first | with_reducible exact h | with_reducible refine Loc.drew ?_ | with_reducible refine Loc.drewN ?_ _ | with_reducible refine Loc.alloc ?_ _)); done)) hb2
  have zS_2 := LS2.lt
  have HB2 : Hid (Below w.heap.size w w2) := Lib.hid (Below.next (W := w) (by repeat (first | with_reducible exact HB1.out | with_reducible exact Below.refl _ _ | with_reducible refine below_drewN ?_ _ | with_reducible refine Below.drew ?_ | with_reducible refine Below.alloc ?_ ?_ _ | with_reducible refine Below.setCell ?_ ?_ _ | (with_reducible refine Below.next ?_ (by assumption)) | ((with_reducible refine Below.far' (by assumption) ?_ ?_ ?_); (focus (first | omega | (simp; omega) | (simp; done))); (focus (first | omega | (simp; omega) | (simp; done)))) | omega | (focus (simp; omega)) | (focus (simp; done)))) hb2)
  have HF2 := Lib.hid (FlashRd.below HF1.out (Below.next (by repeat (first | with_reducible exact Below.refl _ _ | with_reducible refine below_drewN ?_ _ | with_reducible refine Below.drew ?_ | with_reducible refine Below.alloc ?_ ?_ _ | with_reducible refine Below.setCell ?_ ?_ _ | omega | (focus (simp; omega)) | (focus (simp; done)))) hb2))
  have hz2 := hb2.size
  (try simp at hz2)
  have HX2 := Lib.hid (FlashOwn.rd O2)
  have LX2 := Loc.newAt w2 [.slice B0 x.pages.length d0, .slice B1 x.erases.length d1] 30 (b := w2.heap.size) rfl
  have LSa := Loc.alloc LS2 (.cells #[.slice B0 x.pages.length d0, .slice B1 x.erases.length d1] 30)
  clear hb2 O2 LS
  obtain ⟨s0, s1, sf⟩ := LSa.two
  obtain ⟨r0, r1, rf⟩ := LX2.two
  go_wp2_with fail
  refine (specCollect_c _ _ f _ (FlashRd.below HF2.out (by repeat (first | with_reducible exact Below.refl _ _ | with_reducible refine below_drewN ?_ _ | with_reducible refine Below.drew ?_ | with_reducible refine Below.alloc ?_ ?_ _ | with_reducible refine Below.setCell ?_ ?_ _ | omega | (focus (simp; omega)) | (focus (simp; done))))) hszs.out).mono ?_
  rw [← HXD.out, ← HOD.out]
  rintro e w3 ⟨p0, p1, rfl, O3, hb3⟩
  obtain ⟨C0, e0, C1, e1, rfl, rfl⟩ := flashRd_lens (FlashOwn.rd O3)
  have H3 := Lib.hid (FlashOwn.rd O3)
  have LS3 := Loc.carryB LS2 (fun h => by ((repeat (first | with_reducible exact h | with_reducible refine Loc.drew ?_ | with_reducible refine Loc.drewN ?_ _ | with_reducible refine Loc.alloc ?_ _)); done)) hb3; obtain ⟨s0_3, s1_3, sf_3⟩ := LS3.two; have zS_3 := LS3.lt; have LX3 := Loc.carryB LX2 (fun h => by ((repeat (first | with_reducible exact h | with_reducible refine Loc.drew ?_ | with_reducible refine Loc.drewN ?_ _ | with_reducible refine Loc.alloc ?_ _)); done)) hb3; obtain ⟨r0_3, r1_3, rf_3⟩ := LX3.two; have zX_3 := LX3.lt; have HB3 : Hid (Below w.heap.size w w3) := Lib.hid (Below.next (W := w) (by repeat (first | with_reducible exact HB2.out | with_reducible exact Below.refl _ _ | with_reducible refine below_drewN ?_ _ | with_reducible refine Below.drew ?_ | with_reducible refine Below.alloc ?_ ?_ _ | with_reducible refine Below.setCell ?_ ?_ _ | (with_reducible refine Below.next ?_ (by assumption)) | ((with_reducible refine Below.far' (by assumption) ?_ ?_ ?_); (focus (first | omega | (simp; omega) | (simp; done))); (focus (first | omega | (simp; omega) | (simp; done)))) | omega | (focus (simp; omega)) | (focus (simp; done)))) hb3); have HF3 := Lib.hid (FlashRd.below HF2.out (Below.next (by repeat (first | with_reducible exact Below.refl _ _ | with_reducible refine below_drewN ?_ _ | with_reducible refine Below.drew ?_ | with_reducible refine Below.alloc ?_ ?_ _ | with_reducible refine Below.setCell ?_ ?_ _ | omega | (focus (simp; omega)) | (focus (simp; done)))) hb3)); have HX3 := Lib.hid (FlashRd.below HX2.out (Below.next (by repeat (first | with_reducible exact Below.refl _ _ | with_reducible refine below_drewN ?_ _ | with_reducible refine Below.drew ?_ | with_reducible refine Below.alloc ?_ ?_ _ | with_reducible refine Below.setCell ?_ ?_ _ | omega | (focus (simp; omega)) | (focus (simp; done)))) hb3)); have hz3 := hb3.size; (try simp at hz3)
  have LY := Loc.newAt w3 [.slice C0 x.pages.length e0, .slice C1 x.erases.length e1] 30 (b := w3.heap.size) rfl
  obtain ⟨y0, y1, yf⟩ := LY.two
  clear s0 s1 sf r0 r1 rf LSa O3 hb3
  go_wp2_with fail
  refine (sameFlash_c _ _ _ _ x _ (FlashRd.below HX3.out (by repeat (first | with_reducible exact Below.refl _ _ | with_reducible refine below_drewN ?_ _ | with_reducible refine Below.drew ?_ | with_reducible refine Below.alloc ?_ ?_ _ | with_reducible refine Below.setCell ?_ ?_ _ | omega | (focus (simp; omega)) | (focus (simp; done))))) (FlashRd.below H3.out (by repeat (first | with_reducible exact Below.refl _ _ | with_reducible refine below_drewN ?_ _ | with_reducible refine Below.drew ?_ | with_reducible refine Below.alloc ?_ ?_ _ | with_reducible refine Below.setCell ?_ ?_ _ | omega | (focus (simp; omega)) | (focus (simp; done))))) hxsz.out).mono ?_
  rintro e w4 ⟨rfl, hb4⟩
  clear s0_3 s1_3 sf_3 r0_3 r1_3 rf_3
  have LS4 := Loc.carryB LS3 (fun h => by ((repeat (first | with_reducible exact h | with_reducible refine Loc.drew ?_ | with_reducible refine Loc.drewN ?_ _ | with_reducible refine Loc.alloc ?_ _)); done)) hb4; obtain ⟨s0_4, s1_4, sf_4⟩ := LS4.two; have zS_4 := LS4.lt; have LX4 := Loc.carryB LX3 (fun h => by ((repeat (first | with_reducible exact h | with_reducible refine Loc.drew ?_ | with_reducible refine Loc.drewN ?_ _ | with_reducible refine Loc.alloc ?_ _)); done)) hb4; obtain ⟨r0_4, r1_4, rf_4⟩ := LX4.two; have zX_4 := LX4.lt; have HB4 : Hid (Below w.heap.size w w4) := Lib.hid (Below.next (W := w) (by repeat (first | with_reducible exact HB3.out | with_reducible exact Below.refl _ _ | with_reducible refine below_drewN ?_ _ | with_reducible refine Below.drew ?_ | with_reducible refine Below.alloc ?_ ?_ _ | with_reducible refine Below.setCell ?_ ?_ _ | (with_reducible refine Below.next ?_ (by assumption)) | ((with_reducible refine Below.far' (by assumption) ?_ ?_ ?_); (focus (first | omega | (simp; omega) | (simp; done))); (focus (first | omega | (simp; omega) | (simp; done)))) | omega | (focus (simp; omega)) | (focus (simp; done)))) hb4); have HF4 := Lib.hid (FlashRd.below HF3.out (Below.next (by repeat (first | with_reducible exact Below.refl _ _ | with_reducible refine below_drewN ?_ _ | with_reducible refine Below.drew ?_ | with_reducible refine Below.alloc ?_ ?_ _ | with_reducible refine Below.setCell ?_ ?_ _ | omega | (focus (simp; omega)) | (focus (simp; done)))) hb4)); have HX4 := Lib.hid (FlashRd.below HX3.out (Below.next (by repeat (first | with_reducible exact Below.refl _ _ | with_reducible refine below_drewN ?_ _ | with_reducible refine Below.drew ?_ | with_reducible refine Below.alloc ?_ ?_ _ | with_reducible refine Below.setCell ?_ ?_ _ | omega | (focus (simp; omega)) | (focus (simp; done)))) hb4)); have hz4 := hb4.size; (try simp at hz4)
  clear y0 y1 yf LY H3 hb4
  go_wp2_with fail
  refine (specFlash_c _ _ f _ (FlashRd.below HF4.out (by repeat (first | with_reducible exact Below.refl _ _ | with_reducible refine below_drewN ?_ _ | with_reducible refine Below.drew ?_ | with_reducible refine Below.alloc ?_ ?_ _ | with_reducible refine Below.setCell ?_ ?_ _ | omega | (focus (simp; omega)) | (focus (simp; done))))) hszs.out).mono ?_
  cases hv : flashB f
  · have hx0 : x.pages.length = 0 := by rw [HXD.out, (collectB_no hv).1]; rfl
    have hx0' : ((x.pages.length : Int) == 0) = true := by simp [hx0]
    have hok0 : ok = false := by rw [HOD.out, (collectB_no hv).2]
    subst hok0
    clear hx0 hv
    rintro e w5 ⟨rfl, hb5⟩
    clear s0_4 s1_4 sf_4 r0_4 r1_4 rf_4
    have LS5 := Loc.carryB LS4 (fun h => by ((repeat (first | with_reducible exact h | with_reducible refine Loc.drew ?_ | with_reducible refine Loc.drewN ?_ _ | with_reducible refine Loc.alloc ?_ _)); done)) hb5; obtain ⟨s0_5, s1_5, sf_5⟩ := LS5.two; have zS_5 := LS5.lt; have LX5 := Loc.carryB LX4 (fun h => by ((repeat (first | with_reducible exact h | with_reducible refine Loc.drew ?_ | with_reducible refine Loc.drewN ?_ _ | with_reducible refine Loc.alloc ?_ _)); done)) hb5; obtain ⟨r0_5, r1_5, rf_5⟩ := LX5.two; have zX_5 := LX5.lt; have HB5 : Hid (Below w.heap.size w w5) := Lib.hid (Below.next (W := w) (by repeat (first | with_reducible exact HB4.out | with_reducible exact Below.refl _ _ | with_reducible refine below_drewN ?_ _ | with_reducible refine Below.drew ?_ | with_reducible refine Below.alloc ?_ ?_ _ | with_reducible refine Below.setCell ?_ ?_ _ | (with_reducible refine Below.next ?_ (by assumption)) | ((with_reducible refine Below.far' (by assumption) ?_ ?_ ?_); (focus (first | omega | (simp; omega) | (simp; done))); (focus (first | omega | (simp; omega) | (simp; done)))) | omega | (focus (simp; omega)) | (focus (simp; done)))) hb5); have HF5 := Lib.hid (FlashRd.below HF4.out (Below.next (by repeat (first | with_reducible exact Below.refl _ _ | with_reducible refine below_drewN ?_ _ | with_reducible refine Below.drew ?_ | with_reducible refine Below.alloc ?_ ?_ _ | with_reducible refine Below.setCell ?_ ?_ _ | omega | (focus (simp; omega)) | (focus (simp; done)))) hb5)); have HX5 := Lib.hid (FlashRd.below HX4.out (Below.next (by repeat (first | with_reducible exact Below.refl _ _ | with_reducible refine below_drewN ?_ _ | with_reducible refine Below.drew ?_ | with_reducible refine Below.alloc ?_ ?_ _ | with_reducible refine Below.setCell ?_ ?_ _ | omega | (focus (simp; omega)) | (focus (simp; done)))) hb5)); have hz5 := hb5.size; (try simp at hz5)
    clear hb5
    go_wp2_with (go_at_call 28; refine (alive_any _).mono ?_; rintro e w6 ⟨rfl, hb6⟩)
    go_ret
    exact ⟨rfl, Below.next (W := w) HB5.out hb6⟩
  · obtain ⟨hpl, hel, hfr, hview, hokd, hbig, hyes, hno⟩ := collectB_facts hv (fun y hy => by have := (HSM.out y hy).2; omega)
    rw [← HXD.out] at hpl hel hfr hview hbig hyes hno
    rw [← HOD.out] at hokd hyes hno
    have hp1 : x.pages.length ≤ f.pages.length := by omega
    have hp2 : f.pages.length ≤ x.pages.length := by omega
    have hxe1 : f.erases.length ≤ x.erases.length := by omega
    have hxe2 : x.erases.length ≤ f.erases.length := by omega
    have HBG := Lib.hid hbig
    have HWE : Hid (ok = true → x.erases.sum - f.erases.sum = 1) := Lib.hid (fun h => (hyes h).1)
    have HXF : Hid (ok = false → x = f) := Lib.hid hno
    obtain ⟨S, hS⟩ : ∃ S : Int, S = staleN f.pages := ⟨_, rfl⟩
    obtain ⟨G, hG⟩ : ∃ G : Int, G = staleN x.pages := ⟨_, rfl⟩
    obtain ⟨FR, hFRe⟩ : ∃ FR : Int, FR = (freeN x.pages : Int) - freeN f.pages := ⟨_, rfl⟩
    have HSO : Hid (decide (0 < S) = ok) := Lib.hid (by rw [hokd, hS]; simp)
    have HFR : Hid (ok = true → 0 < FR) := Lib.hid (fun h => by have := (hyes h).2; omega)
    have hFG : (FR == S - G) = true := by simp; omega
    have hSb : 0 ≤ S ∧ S ≤ 20 := by have := staleN_le f.pages; omega
    have hGb : 0 ≤ G ∧ G ≤ 20 := by have := staleN_le x.pages; omega
    obtain ⟨hS0, hS1⟩ := hSb
    obtain ⟨hG0, hG1⟩ := hGb
    have hwSG := IntWalk.i64_in (S - G) (by omega)
    have HS := Lib.hid hS
    have HG := Lib.hid hG
    have HFE := Lib.hid hFRe
    obtain ⟨vx, hvx⟩ : ∃ vx, vx = viewF x := ⟨_, rfl⟩
    have HVX := Lib.hid hvx
    have HVF : Hid (vx = viewF f) := Lib.hid (by rw [hvx, hview])
    have hxl2 : vx.length ≤ 64 := by rw [hvx, hview]; exact (diskB_true.1 (viewF_disk hv)).1
    clear hpl hel hfr hview hokd hbig hyes hno hv hS hG hFRe hvx
    rintro e w5 ⟨rfl, hb5⟩
    clear s0_4 s1_4 sf_4 r0_4 r1_4 rf_4
    have LS5 := Loc.carryB LS4 (fun h => by ((repeat (first | with_reducible exact h | with_reducible refine Loc.drew ?_ | with_reducible refine Loc.drewN ?_ _ | with_reducible refine Loc.alloc ?_ _)); done)) hb5; obtain ⟨s0_5, s1_5, sf_5⟩ := LS5.two; have zS_5 := LS5.lt; have LX5 := Loc.carryB LX4 (fun h => by ((repeat (first | with_reducible exact h | with_reducible refine Loc.drew ?_ | with_reducible refine Loc.drewN ?_ _ | with_reducible refine Loc.alloc ?_ _)); done)) hb5; obtain ⟨r0_5, r1_5, rf_5⟩ := LX5.two; have zX_5 := LX5.lt; have HB5 : Hid (Below w.heap.size w w5) := Lib.hid (Below.next (W := w) (by repeat (first | with_reducible exact HB4.out | with_reducible exact Below.refl _ _ | with_reducible refine below_drewN ?_ _ | with_reducible refine Below.drew ?_ | with_reducible refine Below.alloc ?_ ?_ _ | with_reducible refine Below.setCell ?_ ?_ _ | (with_reducible refine Below.next ?_ (by assumption)) | ((with_reducible refine Below.far' (by assumption) ?_ ?_ ?_); (focus (first | omega | (simp; omega) | (simp; done))); (focus (first | omega | (simp; omega) | (simp; done)))) | omega | (focus (simp; omega)) | (focus (simp; done)))) hb5); have HF5 := Lib.hid (FlashRd.below HF4.out (Below.next (by repeat (first | with_reducible exact Below.refl _ _ | with_reducible refine below_drewN ?_ _ | with_reducible refine Below.drew ?_ | with_reducible refine Below.alloc ?_ ?_ _ | with_reducible refine Below.setCell ?_ ?_ _ | omega | (focus (simp; omega)) | (focus (simp; done)))) hb5)); have HX5 := Lib.hid (FlashRd.below HX4.out (Below.next (by repeat (first | with_reducible exact Below.refl _ _ | with_reducible refine below_drewN ?_ _ | with_reducible refine Below.drew ?_ | with_reducible refine Below.alloc ?_ ?_ _ | with_reducible refine Below.setCell ?_ ?_ _ | omega | (focus (simp; omega)) | (focus (simp; done)))) hb5)); have hz5 := hb5.size; (try simp at hz5)
    clear hb5
    have HPF := Lib.hid (FlashRd.pgs HF5.out)
    have HPX := Lib.hid (FlashRd.pgs HX5.out)
    go_wp2
    go_loopw [8, 9, 10, 11] (fun s g fr i wr => ∃ k : Nat, k ≤ f.pages.length ∧ i = .int .i64 k ∧ s = .int .i64 (staleN (f.pages.take k) : Int) ∧ g = .int .i64 (staleN (x.pages.take k) : Int) ∧ fr = .int .i64 ((freeN (x.pages.take k) : Int) - freeN (f.pages.take k)) ∧ ∃ q, wr = w5.drewN q) (fun _ _ _ i _ => f.pages.length - (intOf i).toNat)
    case atStart => exact ⟨0, Nat.zero_le _, rfl, rfl, rfl, rfl, 0, rfl⟩
    case round =>
      obtain ⟨k, hk, rfl, rfl, rfl, rfl, q, rfl⟩ := hrel
      by_cases hlt : k < f.pages.length
      · have hlx : k < x.pages.length := by omega
        obtain ⟨b1, o1, rfl, hbl1, hc1, -⟩ := HPF.out.rPageS hlt
        obtain ⟨b2, o2, rfl, hbl2, hc2, -⟩ := HPX.out.rPageS hlx
        have HS1 := Lib.hid (staleTo_succ hlt)
        have HS2 := Lib.hid (staleTo_succ hlx)
        have HS3 := Lib.hid (freeTo_succ hlx)
        have HS4 := Lib.hid (freeTo_succ hlt)
        have t1 := staleN_le (f.pages.take k)
        have t2 := staleN_le (x.pages.take k)
        have t3 := freeN_le (x.pages.take k)
        have t4 := freeN_le (f.pages.take k)
        rw [List.length_take] at t1 t2 t3 t4
        obtain ⟨o, ho⟩ : ∃ o, o = (f.pages[k]'hlt).own := ⟨_, rfl⟩
        obtain ⟨p, hp⟩ : ∃ p, p = (x.pages[k]'hlx).own := ⟨_, rfl⟩
        obtain ⟨a1, ha1⟩ : ∃ a, a = staleN (f.pages.take k) := ⟨_, rfl⟩
        obtain ⟨a2, ha2⟩ : ∃ a, a = staleN (x.pages.take k) := ⟨_, rfl⟩
        obtain ⟨a3, ha3⟩ : ∃ a, a = freeN (x.pages.take k) := ⟨_, rfl⟩
        obtain ⟨a4, ha4⟩ : ∃ a, a = freeN (f.pages.take k) := ⟨_, rfl⟩
        rw [← ho] at hc1
        rw [← hp] at hc2
        rw [← ha1, ← ho] at HS1
        rw [← ha2, ← hp] at HS2
        rw [← ha3, ← hp] at HS3
        rw [← ha4, ← ho] at HS4
        rw [← ha1] at t1
        rw [← ha2] at t2
        rw [← ha3] at t3
        rw [← ha4] at t4
        rw [← ha1, ← ha2, ← ha3, ← ha4]
        have l1 : a1 ≤ 20 := by omega
        have l2 : a2 ≤ 20 := by omega
        have l3 : a3 ≤ 20 := by omega
        have l4 : a4 ≤ 20 := by omega
        have hw1 := IntWalk.i64_in ((a1 : Int) + 1) (by omega)
        have hw2 := IntWalk.i64_in ((a2 : Int) + 1) (by omega)
        have hw3 := IntWalk.i64_in ((a3 : Int) - a4 + 1) (by omega)
        have hw4 := IntWalk.i64_in ((a3 : Int) - a4 - 1) (by omega)
        have hw5 := IntWalk.i64_in ((a3 : Int) - a4 - 1 + 1) (by omega)
        clear ho hp ha1 ha2 ha3 ha4 t1 t2 t3 t4
        obtain ⟨b, c, s, t, hb, hc, hs, ht, hcase⟩ := own3 o
        obtain ⟨b', c', s', t', hb', hc', hs', ht', hcase'⟩ := own3 p
        rw [hs] at HS1
        rw [ht] at HS4
        rw [hs'] at HS2
        rw [ht'] at HS3
        clear hs ht hs' ht'
        rcases hcase with ⟨rfl, rfl, rfl, rfl⟩ | ⟨rfl, rfl, rfl, rfl⟩ | ⟨rfl, rfl, rfl, rfl⟩
        all_goals
          rcases hcase' with ⟨rfl, rfl, rfl, rfl⟩ | ⟨rfl, rfl, rfl, rfl⟩ | ⟨rfl, rfl, rfl, rfl⟩
        all_goals
          clear hFG hwSG hp1 hp2 hxe1 hxe2
          go_wp2
          go_roundw
          case rel => exact ⟨k + 1, by omega, by go_num, by rw [HS1.out]; congr 1, by rw [HS2.out]; congr 1, by rw [HS3.out, HS4.out]; congr 1 <;> omega, _, rfl⟩
          case measure => simp [intOf]; omega
      · have e1 : (staleN (f.pages.take k) : Int) = S := by rw [List.take_of_length_le (by omega), HS.out]
        have e2 : (staleN (x.pages.take k) : Int) = G := by rw [List.take_of_length_le (by omega), HG.out]
        have e3 : (freeN (x.pages.take k) : Int) - freeN (f.pages.take k) = FR := by rw [List.take_of_length_le (by omega), List.take_of_length_le (by omega), HFE.out]
        rw [e1, e2, e3]
        clear e1 e2 e3
        have HEF := Lib.hid (FlashRd.ers HF5.out)
        have HEX := Lib.hid (FlashRd.ers HX5.out)
        go_wp2
        go_loopw [12, 13] (fun s i wr => ∃ j : Nat, j ≤ f.erases.length ∧ i = .int .i64 j ∧ s = .int .i64 (sumTo x.erases j - sumTo f.erases j) ∧ ∃ q, wr = w5.drewN q) (fun _ i _ => f.erases.length - (intOf i).toNat)
        case atStart => exact ⟨0, Nat.zero_le _, rfl, by rw [sumTo_zero, sumTo_zero]; rfl, q, rfl⟩
        case round =>
          obtain ⟨j, hj, rfl, rfl, q2, rfl⟩ := hrel
          by_cases hjl : j < f.erases.length
          · have hjx : j < x.erases.length := by omega
            obtain ⟨b1, o1, rfl, hbl1, hcf⟩ := HEF.out.int hjl
            obtain ⟨b2, o2, rfl, hbl2, hcx⟩ := HEX.out.int hjx
            have HS1 := Lib.hid (sumTo_succ hjl)
            have HS2 := Lib.hid (sumTo_succ hjx)
            have hs1 := sumTo_in HSM.out j hj
            have hs2 := sumTo_in HBG.out j (by omega)
            have hy1 := HSM.out _ (List.getElem_mem hjl)
            have hy2 := HBG.out _ (List.getElem_mem hjx)
            obtain ⟨y1, hye1⟩ : ∃ y, y = f.erases[j]'hjl := ⟨_, rfl⟩
            obtain ⟨y2, hye2⟩ : ∃ y, y = x.erases[j]'hjx := ⟨_, rfl⟩
            obtain ⟨u1, hue1⟩ : ∃ y, y = sumTo f.erases j := ⟨_, rfl⟩
            obtain ⟨u2, hue2⟩ : ∃ y, y = sumTo x.erases j := ⟨_, rfl⟩
            rw [← hye1] at hcf hy1
            rw [← hye2] at hcx hy2
            rw [← hue1] at hs1
            rw [← hue2] at hs2
            rw [← hye1, ← hue1] at HS1
            rw [← hye2, ← hue2] at HS2
            rw [← hue1, ← hue2]
            obtain ⟨hy10, hy11⟩ := hy1
            obtain ⟨hy20, hy21⟩ := hy2
            obtain ⟨hs10, hs11⟩ := hs1
            obtain ⟨hs20, hs21⟩ := hs2
            have hww1 := IntWalk.i64_in (u2 - u1 + y2) (by omega)
            have hww2 := IntWalk.i64_in (u2 - u1 + y2 - y1) (by omega)
            clear hye1 hye2 hue1 hue2
            go_wp2
            go_quiet (fail)
            go_wp2
            go_roundw
            case rel => exact ⟨j + 1, by omega, by go_num, by rw [HS1.out, HS2.out]; congr 1; omega, _, rfl⟩
            case measure => simp [intOf]; omega
          · have hse : sumTo x.erases j - sumTo f.erases j = x.erases.sum - f.erases.sum := by rw [sumTo_all (by omega), sumTo_all (by omega)]
            rw [hse]
            obtain ⟨we, hwee⟩ : ∃ we, we = x.erases.sum - f.erases.sum := ⟨_, rfl⟩
            rw [← hwee]
            have hwx : ok = true → we = 1 := by rw [hwee]; exact HWE.out
            clear hse hwee
            cases ok
            · have hSp : (0 < S) = False := by have := HSO.out; simpa using this
              have hxf := HXF.out rfl
              have HFX5 : Hid (FlashRd w5 [.slice A0 f.pages.length c0, .slice A1 f.erases.length c1] x) := Lib.hid (by rw [hxf]; exact HF5.out)
              clear hxf hwx
              go_wp2
              refine wp_region_noPanic ?_
              refine wp_region_held_drew (S := (fun w' => w'.cell? ⟨w1.heap.size, 0, none⟩ = some (.slice A0 f.pages.length c0) ∧ w'.cell? ⟨w1.heap.size, 1, none⟩ = some (.slice A1 f.erases.length c1) ∧ w'.cell? ⟨w2.heap.size, 0, none⟩ = some (.slice B0 x.pages.length d0) ∧ w'.cell? ⟨w2.heap.size, 1, none⟩ = some (.slice B1 x.erases.length d1))) (by kernel_rfl) ?_ (fun hHeld => ?_)
              focus (exact ⟨s0_5, s1_5, r0_5, r1_5⟩)
              (refine wpAnyH_take (i := 0) (oi := _) (v := ?_) rfl (by kernel_rfl) (by kernel_rfl) (by kernel_rfl) (fun _ _ _ h => h) (Or.inl ⟨by rfl, ?_⟩) (by assumption) ?_; rotate_left; (focus (intro wS hSw; (try dsimp only at hSw); go_simp; (try with_reducible rfl); done)); (try simp only [List.getElem_toArray, List.getElem_cons_succ, List.getElem_cons_zero, Act.put, List.setIfInBounds_toArray, List.set_cons_zero, List.set_cons_succ]))
              (refine wpAnyH_take (i := 2) (oi := _) (v := ?_) rfl (by kernel_rfl) (by kernel_rfl) (by kernel_rfl) (fun _ _ _ h => h) (Or.inl ⟨by rfl, ?_⟩) (by assumption) ?_; rotate_left; (focus (intro wS hSw; (try dsimp only at hSw); go_simp; (try with_reducible rfl); done)); (try simp only [List.getElem_toArray, List.getElem_cons_succ, List.getElem_cons_zero, Act.put, List.setIfInBounds_toArray, List.set_cons_zero, List.set_cons_succ]))
              refine wpAnyH_ready (rs := [1]) (by kernel_rfl) (by simp) ?_
              refine AllReadyH.cons (o := _) rfl (fun K hK => ?_) AllReadyH.nil
              go_simp
              refine (implView_c (.slice B0 x.pages.length d0) _ x _ (FlashRd.below HX5.out (by repeat (first | with_reducible exact Below.refl _ _ | with_reducible refine below_drewN ?_ _ | with_reducible refine Below.drew ?_ | with_reducible refine Below.alloc ?_ ?_ _ | with_reducible refine Below.setCell ?_ ?_ _ | omega | (focus (simp; omega)) | (focus (simp; done))))) hxsz.out).mono ?_
              rw [← HVX.out]
              rintro e w7 ⟨u7, rfl, o7, hb7⟩
              obtain ⟨A7, c7, gg7, rfl, -, -⟩ := id o7
              have LS7 := Loc.carryB LS5 (fun h => by ((repeat (first | with_reducible exact h | with_reducible refine Loc.drew ?_ | with_reducible refine Loc.drewN ?_ _ | with_reducible refine Loc.alloc ?_ _)); done)) hb7; obtain ⟨s0_7, s1_7, sf_7⟩ := LS7.two; have zS_7 := LS7.lt; have LX7 := Loc.carryB LX5 (fun h => by ((repeat (first | with_reducible exact h | with_reducible refine Loc.drew ?_ | with_reducible refine Loc.drewN ?_ _ | with_reducible refine Loc.alloc ?_ _)); done)) hb7; obtain ⟨r0_7, r1_7, rf_7⟩ := LX7.two; have zX_7 := LX7.lt; have HB7 : Hid (Below w.heap.size w w7) := Lib.hid (Below.next (W := w) (by repeat (first | with_reducible exact HB5.out | with_reducible exact Below.refl _ _ | with_reducible refine below_drewN ?_ _ | with_reducible refine Below.drew ?_ | with_reducible refine Below.alloc ?_ ?_ _ | with_reducible refine Below.setCell ?_ ?_ _ | (with_reducible refine Below.next ?_ (by assumption)) | ((with_reducible refine Below.far' (by assumption) ?_ ?_ ?_); (focus (first | omega | (simp; omega) | (simp; done))); (focus (first | omega | (simp; omega) | (simp; done)))) | omega | (focus (simp; omega)) | (focus (simp; done)))) hb7); have HF7 := Lib.hid (FlashRd.below HF5.out (Below.next (by repeat (first | with_reducible exact Below.refl _ _ | with_reducible refine below_drewN ?_ _ | with_reducible refine Below.drew ?_ | with_reducible refine Below.alloc ?_ ?_ _ | with_reducible refine Below.setCell ?_ ?_ _ | omega | (focus (simp; omega)) | (focus (simp; done)))) hb7)); have HX7 := Lib.hid (FlashRd.below HX5.out (Below.next (by repeat (first | with_reducible exact Below.refl _ _ | with_reducible refine below_drewN ?_ _ | with_reducible refine Below.drew ?_ | with_reducible refine Below.alloc ?_ ?_ _ | with_reducible refine Below.setCell ?_ ?_ _ | omega | (focus (simp; omega)) | (focus (simp; done)))) hb7)); have hz7 := hb7.size; (try simp at hz7)
              have H7 := Lib.hid (SOwn.rd o7)
              have HFX7 := Lib.hid (FlashRd.below HFX5.out (Below.next (by repeat (first | with_reducible exact Below.refl _ _ | with_reducible refine below_drewN ?_ _ | with_reducible refine Below.drew ?_ | with_reducible refine Below.alloc ?_ ?_ _ | with_reducible refine Below.setCell ?_ ?_ _ | omega | (focus (simp; omega)) | (focus (simp; done)))) hb7))
              clear o7 hb7
              go_wp2_with fail
              refine hK.out _ _ ?_ (fun hHeld => ?_)
              focus (exact ⟨s0_7, s1_7, r0_7, r1_7⟩)
              clear hK K
              try simp only [List.getElem_toArray, List.getElem_cons_succ, List.getElem_cons_zero, Act.put, List.setIfInBounds_toArray, List.set_cons_zero, List.set_cons_succ]
              refine wpAnyH_ready (rs := [3]) (by kernel_rfl) (by simp) ?_
              refine AllReadyH.cons (o := _) rfl (fun K hK => ?_) AllReadyH.nil
              go_simp
              refine (implView_c (.slice A0 f.pages.length c0) _ f _ (FlashRd.below HF7.out (by repeat (first | with_reducible exact Below.refl _ _ | with_reducible refine below_drewN ?_ _ | with_reducible refine Below.drew ?_ | with_reducible refine Below.alloc ?_ ?_ _ | with_reducible refine Below.setCell ?_ ?_ _ | omega | (focus (simp; omega)) | (focus (simp; done))))) hszs.out).mono ?_
              rw [← HVF.out]
              rintro e w8 ⟨u8, rfl, o8, hb8⟩
              obtain ⟨A8, c8, gg8, rfl, -, -⟩ := id o8
              have LS8 := Loc.carryB LS7 (fun h => by ((repeat (first | with_reducible exact h | with_reducible refine Loc.drew ?_ | with_reducible refine Loc.drewN ?_ _ | with_reducible refine Loc.alloc ?_ _)); done)) hb8; obtain ⟨s0_8, s1_8, sf_8⟩ := LS8.two; have zS_8 := LS8.lt; have LX8 := Loc.carryB LX7 (fun h => by ((repeat (first | with_reducible exact h | with_reducible refine Loc.drew ?_ | with_reducible refine Loc.drewN ?_ _ | with_reducible refine Loc.alloc ?_ _)); done)) hb8; obtain ⟨r0_8, r1_8, rf_8⟩ := LX8.two; have zX_8 := LX8.lt; have HB8 : Hid (Below w.heap.size w w8) := Lib.hid (Below.next (W := w) (by repeat (first | with_reducible exact HB7.out | with_reducible exact Below.refl _ _ | with_reducible refine below_drewN ?_ _ | with_reducible refine Below.drew ?_ | with_reducible refine Below.alloc ?_ ?_ _ | with_reducible refine Below.setCell ?_ ?_ _ | (with_reducible refine Below.next ?_ (by assumption)) | ((with_reducible refine Below.far' (by assumption) ?_ ?_ ?_); (focus (first | omega | (simp; omega) | (simp; done))); (focus (first | omega | (simp; omega) | (simp; done)))) | omega | (focus (simp; omega)) | (focus (simp; done)))) hb8); have HF8 := Lib.hid (FlashRd.below HF7.out (Below.next (by repeat (first | with_reducible exact Below.refl _ _ | with_reducible refine below_drewN ?_ _ | with_reducible refine Below.drew ?_ | with_reducible refine Below.alloc ?_ ?_ _ | with_reducible refine Below.setCell ?_ ?_ _ | omega | (focus (simp; omega)) | (focus (simp; done)))) hb8)); have HX8 := Lib.hid (FlashRd.below HX7.out (Below.next (by repeat (first | with_reducible exact Below.refl _ _ | with_reducible refine below_drewN ?_ _ | with_reducible refine Below.drew ?_ | with_reducible refine Below.alloc ?_ ?_ _ | with_reducible refine Below.setCell ?_ ?_ _ | omega | (focus (simp; omega)) | (focus (simp; done)))) hb8)); have hz8 := hb8.size; (try simp at hz8)
              have H8 := Lib.hid (SOwn.rd o8)
              have H78 := Lib.hid (SRd.below H7.out (Below.next (by repeat (first | with_reducible exact Below.refl _ _ | with_reducible refine below_drewN ?_ _ | with_reducible refine Below.drew ?_ | with_reducible refine Below.alloc ?_ ?_ _ | with_reducible refine Below.setCell ?_ ?_ _ | omega | (focus (simp; omega)) | (focus (simp; done)))) hb8))
              have HFX8 := Lib.hid (FlashRd.below HFX7.out (Below.next (by repeat (first | with_reducible exact Below.refl _ _ | with_reducible refine below_drewN ?_ _ | with_reducible refine Below.drew ?_ | with_reducible refine Below.alloc ?_ ?_ _ | with_reducible refine Below.setCell ?_ ?_ _ | omega | (focus (simp; omega)) | (focus (simp; done)))) hb8))
              clear o8 hb8
              go_wp2_with fail
              refine hK.out _ _ ?_ (fun hHeld => ?_)
              focus (exact ⟨s0_8, s1_8, r0_8, r1_8⟩)
              clear hK K
              try simp only [List.getElem_toArray, List.getElem_cons_succ, List.getElem_cons_zero, Act.put, List.setIfInBounds_toArray, List.set_cons_zero, List.set_cons_succ]
              refine wpAnyH_ready (rs := [4]) (by kernel_rfl) (by simp) ?_
              refine AllReadyH.cons (o := _) rfl (fun K hK => ?_) AllReadyH.nil
              go_simp
              refine (sameInts_v (.slice A7 vx.length c7) (.slice A8 vx.length c8) vx vx _ (SRd.below H78.out (by repeat (first | with_reducible exact Below.refl _ _ | with_reducible refine below_drewN ?_ _ | with_reducible refine Below.drew ?_ | with_reducible refine Below.alloc ?_ ?_ _ | with_reducible refine Below.setCell ?_ ?_ _ | omega | (focus (simp; omega)) | (focus (simp; done))))) (SRd.below H8.out (by repeat (first | with_reducible exact Below.refl _ _ | with_reducible refine below_drewN ?_ _ | with_reducible refine Below.drew ?_ | with_reducible refine Below.alloc ?_ ?_ _ | with_reducible refine Below.setCell ?_ ?_ _ | omega | (focus (simp; omega)) | (focus (simp; done))))) (by omega) (by omega)).mono ?_
              rw [dec_refl]
              rintro e w10 ⟨rfl, q10, rfl⟩
              go_wp2_with fail
              refine hK.out _ _ ?_ (fun hHeld => ?_)
              focus (exact ⟨s0_8, s1_8, r0_8, r1_8⟩)
              clear hK K
              try simp only [List.getElem_toArray, List.getElem_cons_succ, List.getElem_cons_zero, Act.put, List.setIfInBounds_toArray, List.set_cons_zero, List.set_cons_succ]
              (try clear HB1)
              (try clear HF1)
              (try clear HX1)
              (try clear HB2)
              (try clear HF2)
              (try clear HX2)
              (try clear HB3)
              (try clear HF3)
              (try clear HX3)
              (try clear HB4)
              (try clear HF4)
              (try clear HX4)
              (try clear HB5)
              (try clear HF5)
              (try clear HX5)
              (try clear HB7)
              (try clear HF7)
              (try clear LS2)
              (try clear LX2)
              (try clear LS3)
              (try clear LX3)
              (try clear LS4)
              (try clear LX4)
              (try clear LS5)
              (try clear LX5)
              (try clear LS7)
              (try clear LX7)
              (try clear s0_5)
              (try clear s1_5)
              (try clear sf_5)
              (try clear r0_5)
              (try clear r1_5)
              (try clear rf_5)
              (try clear s0_7)
              (try clear s1_7)
              (try clear sf_7)
              (try clear r0_7)
              (try clear r1_7)
              (try clear rf_7)
              (try clear s0_8)
              (try clear s1_8)
              (try clear sf_8)
              (try clear r0_8)
              (try clear r1_8)
              (try clear rf_8)
              (try clear zS_2)
              (try clear zX_2)
              (try clear hz2)
              (try clear zS_3)
              (try clear zX_3)
              (try clear hz3)
              (try clear zS_4)
              (try clear zX_4)
              (try clear hz4)
              (try clear zS_5)
              (try clear zX_5)
              (try clear hz5)
              (try clear zS_7)
              (try clear zX_7)
              (try clear hz7)
              (try clear hz1)
              (try clear HPF)
              (try clear HPX)
              (try clear HEF)
              (try clear HEX)
              (try clear HBG)
              (try clear HSM)
              (try clear HB)
              (try clear H7)
              (try clear H78)
              (try clear H8)
              (try clear HXD)
              (try clear HOD)
              (try clear HWE)
              (try clear HS)
              (try clear HG)
              (try clear HFE)
              (try clear HVX)
              (try clear HVF)
              (try clear hl)
              (try clear hm)
              (try clear hr)
              (try clear hfp)
              (try clear hfe)
              (try clear hxp)
              (try clear hxe)
              (try clear hp1)
              (try clear hp2)
              (try clear hxe1)
              (try clear hxe2)
              (try clear hS0)
              (try clear hS1)
              (try clear hG0)
              (try clear hG1)
              (try clear hxl2)
              (try clear hk)
              (try clear hlt)
              (try clear hj)
              (try clear hjl)
              (try clear HSO)
              (try clear HFR)
              (try clear hHeld0)
              (refine wpAnyH_take (i := 5) (oi := _) (v := ?_) rfl (by kernel_rfl) (by kernel_rfl) (by kernel_rfl) (fun _ _ _ h => h) (Or.inl ⟨by rfl, ?_⟩) (by assumption) ?_; rotate_left; (focus (intro wS hSw; (try dsimp only at hSw); go_simp; (try with_reducible rfl); done)); (try simp only [List.getElem_toArray, List.getElem_cons_succ, List.getElem_cons_zero, Act.put, List.setIfInBounds_toArray, List.set_cons_zero, List.set_cons_succ]))
              (refine wpAnyH_take (i := 6) (oi := _) (v := ?_) rfl (by kernel_rfl) (by kernel_rfl) (by kernel_rfl) (fun _ _ _ h => h) (Or.inl ⟨by rfl, ?_⟩) (by assumption) ?_; rotate_left; (focus (intro wS hSw; (try dsimp only at hSw); go_simp; (try with_reducible rfl); done)); (try simp only [List.getElem_toArray, List.getElem_cons_succ, List.getElem_cons_zero, Act.put, List.setIfInBounds_toArray, List.set_cons_zero, List.set_cons_succ]))
              (refine wpAnyH_take (i := 7) (oi := _) (v := ?_) rfl (by kernel_rfl) (by kernel_rfl) (by kernel_rfl) (fun _ _ _ h => h) (Or.inl ⟨by rfl, ?_⟩) (by assumption) ?_; rotate_left; (focus (intro wS hSw; (try dsimp only at hSw); go_simp; (try with_reducible rfl); done)); (try simp only [List.getElem_toArray, List.getElem_cons_succ, List.getElem_cons_zero, Act.put, List.setIfInBounds_toArray, List.set_cons_zero, List.set_cons_succ]))
              (refine wpAnyH_take (i := 8) (oi := _) (v := ?_) rfl (by kernel_rfl) (by kernel_rfl) (by kernel_rfl) (fun _ _ _ h => h) (Or.inl ⟨by rfl, ?_⟩) (by assumption) ?_; rotate_left; (focus (intro wS hSw; (try dsimp only at hSw); go_simp; (try with_reducible rfl); done)); (try simp only [List.getElem_toArray, List.getElem_cons_succ, List.getElem_cons_zero, Act.put, List.setIfInBounds_toArray, List.set_cons_zero, List.set_cons_succ]))
              (refine wpAnyH_take (i := 9) (oi := _) (v := ?_) rfl (by kernel_rfl) (by kernel_rfl) (by kernel_rfl) (fun _ _ _ h => h) (Or.inl ⟨by rfl, ?_⟩) (by assumption) ?_; rotate_left; (focus (intro wS hSw; (try dsimp only at hSw); go_simp; (try with_reducible rfl); done)); (try simp only [List.getElem_toArray, List.getElem_cons_succ, List.getElem_cons_zero, Act.put, List.setIfInBounds_toArray, List.set_cons_zero, List.set_cons_succ]))
              (refine wpAnyH_take (i := 10) (oi := _) (v := ?_) rfl (by kernel_rfl) (by kernel_rfl) (by kernel_rfl) (fun _ _ _ h => h) (Or.inl ⟨by rfl, ?_⟩) (by assumption) ?_; rotate_left; (focus (intro wS hSw; (try dsimp only at hSw); go_simp; (try with_reducible rfl); done)); (try simp only [List.getElem_toArray, List.getElem_cons_succ, List.getElem_cons_zero, Act.put, List.setIfInBounds_toArray, List.set_cons_zero, List.set_cons_succ]))
              (refine wpAnyH_take (i := 11) (oi := _) (v := ?_) rfl (by kernel_rfl) (by kernel_rfl) (by kernel_rfl) (fun _ _ _ h => h) (Or.inl ⟨by rfl, ?_⟩) (by assumption) ?_; rotate_left; (focus (intro wS hSw; (try dsimp only at hSw); go_simp; (try with_reducible rfl); done)); (try simp only [List.getElem_toArray, List.getElem_cons_succ, List.getElem_cons_zero, Act.put, List.setIfInBounds_toArray, List.set_cons_zero, List.set_cons_succ]))
              (refine wpAnyH_take (i := 12) (oi := _) (v := ?_) rfl (by kernel_rfl) (by kernel_rfl) (by kernel_rfl) (fun _ _ _ h => h) (Or.inl ⟨by rfl, ?_⟩) (by assumption) ?_; rotate_left; (focus (intro wS hSw; (try dsimp only at hSw); go_simp; (try with_reducible rfl); done)); (try simp only [List.getElem_toArray, List.getElem_cons_succ, List.getElem_cons_zero, Act.put, List.setIfInBounds_toArray, List.set_cons_zero, List.set_cons_succ]))
              (refine wpAnyH_take (i := 13) (oi := _) (v := ?_) rfl (by kernel_rfl) (by kernel_rfl) (by kernel_rfl) (fun _ _ _ h => h) (Or.inl ⟨by rfl, ?_⟩) (by assumption) ?_; rotate_left; (focus (intro wS hSw; (try dsimp only at hSw); go_simp; (try with_reducible rfl); done)); (try simp only [List.getElem_toArray, List.getElem_cons_succ, List.getElem_cons_zero, Act.put, List.setIfInBounds_toArray, List.set_cons_zero, List.set_cons_succ]))
              (refine wpAnyH_take (i := 14) (oi := _) (v := ?_) rfl (by kernel_rfl) (by kernel_rfl) (by kernel_rfl) (fun _ _ _ h => h) (Or.inl ⟨by rfl, ?_⟩) (by assumption) ?_; rotate_left; (focus (intro wS hSw; (try dsimp only at hSw); go_simp; (try with_reducible rfl); done)); (try simp only [List.getElem_toArray, List.getElem_cons_succ, List.getElem_cons_zero, Act.put, List.setIfInBounds_toArray, List.set_cons_zero, List.set_cons_succ]))
              (refine wpAnyH_take (i := 15) (oi := _) (v := ?_) rfl (by kernel_rfl) (by kernel_rfl) (by kernel_rfl) (fun _ _ _ h => h) (Or.inl ⟨by rfl, ?_⟩) (by assumption) ?_; rotate_left; (focus (intro wS hSw; (try dsimp only at hSw); go_simp; (try with_reducible rfl); done)); (try simp only [List.getElem_toArray, List.getElem_cons_succ, List.getElem_cons_zero, Act.put, List.setIfInBounds_toArray, List.set_cons_zero, List.set_cons_succ]))
              (refine wpAnyH_take (i := 16) (oi := _) (v := ?_) rfl (by kernel_rfl) (by kernel_rfl) (by kernel_rfl) (fun _ _ _ h => h) (Or.inl ⟨by rfl, ?_⟩) (by assumption) ?_; rotate_left; (focus (intro wS hSw; (try dsimp only at hSw); go_simp; (try with_reducible rfl); done)); (try simp only [List.getElem_toArray, List.getElem_cons_succ, List.getElem_cons_zero, Act.put, List.setIfInBounds_toArray, List.set_cons_zero, List.set_cons_succ]))
              (refine wpAnyH_take (i := 17) (oi := _) (v := ?_) rfl (by kernel_rfl) (by kernel_rfl) (by kernel_rfl) (fun _ _ _ h => h) (Or.inl ⟨by rfl, ?_⟩) (by assumption) ?_; rotate_left; (focus (intro wS hSw; (try dsimp only at hSw); go_simp; (try with_reducible rfl); done)); (try simp only [List.getElem_toArray, List.getElem_cons_succ, List.getElem_cons_zero, Act.put, List.setIfInBounds_toArray, List.set_cons_zero, List.set_cons_succ]))
              (refine wpAnyH_take (i := 18) (oi := _) (v := ?_) rfl (by kernel_rfl) (by kernel_rfl) (by kernel_rfl) (fun _ _ _ h => h) (Or.inl ⟨by rfl, ?_⟩) (by assumption) ?_; rotate_left; (focus (intro wS hSw; (try dsimp only at hSw); go_simp; (try with_reducible rfl); done)); (try simp only [List.getElem_toArray, List.getElem_cons_succ, List.getElem_cons_zero, Act.put, List.setIfInBounds_toArray, List.set_cons_zero, List.set_cons_succ]))
              (refine wpAnyH_take (i := 19) (oi := _) (v := ?_) rfl (by kernel_rfl) (by kernel_rfl) (by kernel_rfl) (fun _ _ _ h => h) (Or.inl ⟨by rfl, ?_⟩) (by assumption) ?_; rotate_left; (focus (intro wS hSw; (try dsimp only at hSw); go_simp; (try with_reducible rfl); done)); (try simp only [List.getElem_toArray, List.getElem_cons_succ, List.getElem_cons_zero, Act.put, List.setIfInBounds_toArray, List.set_cons_zero, List.set_cons_succ]))
              (refine wpAnyH_take (i := 20) (oi := _) (v := ?_) rfl (by kernel_rfl) (by kernel_rfl) (by kernel_rfl) (fun _ _ _ h => h) (Or.inl ⟨by rfl, ?_⟩) (by assumption) ?_; rotate_left; (focus (intro wS hSw; (try dsimp only at hSw); go_simp; (try with_reducible rfl); done)); (try simp only [List.getElem_toArray, List.getElem_cons_succ, List.getElem_cons_zero, Act.put, List.setIfInBounds_toArray, List.set_cons_zero, List.set_cons_succ]))
              (refine wpAnyH_take (i := 21) (oi := _) (v := undef) rfl (by kernel_rfl) (by kernel_rfl) (by kernel_rfl) (fun _ _ _ h => h) (Or.inr ⟨by rfl, rfl⟩) (by assumption) ?_; (try simp only [List.getElem_toArray, List.getElem_cons_succ, List.getElem_cons_zero, Act.put, List.setIfInBounds_toArray, List.set_cons_zero, List.set_cons_succ]))
              (refine wpAnyH_take (i := 22) (oi := _) (v := undef) rfl (by kernel_rfl) (by kernel_rfl) (by kernel_rfl) (fun _ _ _ h => h) (Or.inr ⟨by rfl, rfl⟩) (by assumption) ?_; (try simp only [List.getElem_toArray, List.getElem_cons_succ, List.getElem_cons_zero, Act.put, List.setIfInBounds_toArray, List.set_cons_zero, List.set_cons_succ]))
              (refine wpAnyH_take (i := 23) (oi := _) (v := ?_) rfl (by kernel_rfl) (by kernel_rfl) (by kernel_rfl) (fun _ _ _ h => h) (Or.inl ⟨by rfl, ?_⟩) (by assumption) ?_; rotate_left; (focus (intro wS hSw; (try dsimp only at hSw); go_simp; (try with_reducible rfl); done)); (try simp only [List.getElem_toArray, List.getElem_cons_succ, List.getElem_cons_zero, Act.put, List.setIfInBounds_toArray, List.set_cons_zero, List.set_cons_succ]))
              (refine wpAnyH_take (i := 24) (oi := _) (v := ?_) rfl (by kernel_rfl) (by kernel_rfl) (by kernel_rfl) (fun _ _ _ h => h) (Or.inl ⟨by rfl, ?_⟩) (by assumption) ?_; rotate_left; (focus (intro wS hSw; (try dsimp only at hSw); go_simp; (try with_reducible rfl); done)); (try simp only [List.getElem_toArray, List.getElem_cons_succ, List.getElem_cons_zero, Act.put, List.setIfInBounds_toArray, List.set_cons_zero, List.set_cons_succ]))
              (refine wpAnyH_take (i := 25) (oi := _) (v := undef) rfl (by kernel_rfl) (by kernel_rfl) (by kernel_rfl) (fun _ _ _ h => h) (Or.inr ⟨by rfl, rfl⟩) (by assumption) ?_; (try simp only [List.getElem_toArray, List.getElem_cons_succ, List.getElem_cons_zero, Act.put, List.setIfInBounds_toArray, List.set_cons_zero, List.set_cons_succ]))
              (refine wpAnyH_take (i := 26) (oi := _) (v := undef) rfl (by kernel_rfl) (by kernel_rfl) (by kernel_rfl) (fun _ _ _ h => h) (Or.inr ⟨by rfl, rfl⟩) (by assumption) ?_; (try simp only [List.getElem_toArray, List.getElem_cons_succ, List.getElem_cons_zero, Act.put, List.setIfInBounds_toArray, List.set_cons_zero, List.set_cons_succ]))
              (refine wpAnyH_take (i := 27) (oi := _) (v := ?_) rfl (by kernel_rfl) (by kernel_rfl) (by kernel_rfl) (fun _ _ _ h => h) (Or.inl ⟨by rfl, ?_⟩) (by assumption) ?_; rotate_left; (focus (intro wS hSw; (try dsimp only at hSw); go_simp; (try with_reducible rfl); done)); (try simp only [List.getElem_toArray, List.getElem_cons_succ, List.getElem_cons_zero, Act.put, List.setIfInBounds_toArray, List.set_cons_zero, List.set_cons_succ]))
              (refine wpAnyH_take (i := 28) (oi := _) (v := ?_) rfl (by kernel_rfl) (by kernel_rfl) (by kernel_rfl) (fun _ _ _ h => h) (Or.inl ⟨by rfl, ?_⟩) (by assumption) ?_; rotate_left; (focus (intro wS hSw; (try dsimp only at hSw); go_simp; (try with_reducible rfl); done)); (try simp only [List.getElem_toArray, List.getElem_cons_succ, List.getElem_cons_zero, Act.put, List.setIfInBounds_toArray, List.set_cons_zero, List.set_cons_succ]))
              (refine wpAnyH_take (i := 29) (oi := _) (v := ?_) rfl (by kernel_rfl) (by kernel_rfl) (by kernel_rfl) (fun _ _ _ h => h) (Or.inl ⟨by rfl, ?_⟩) (by assumption) ?_; rotate_left; (focus (intro wS hSw; (try dsimp only at hSw); go_simp; (try with_reducible rfl); done)); (try simp only [List.getElem_toArray, List.getElem_cons_succ, List.getElem_cons_zero, Act.put, List.setIfInBounds_toArray, List.set_cons_zero, List.set_cons_succ]))
              (refine wpAnyH_take (i := 30) (oi := _) (v := ?_) rfl (by kernel_rfl) (by kernel_rfl) (by kernel_rfl) (fun _ _ _ h => h) (Or.inl ⟨by rfl, ?_⟩) (by assumption) ?_; rotate_left; (focus (intro wS hSw; (try dsimp only at hSw); go_simp; (try with_reducible rfl); done)); (try simp only [List.getElem_toArray, List.getElem_cons_succ, List.getElem_cons_zero, Act.put, List.setIfInBounds_toArray, List.set_cons_zero, List.set_cons_succ]))
              (refine wpAnyH_take (i := 31) (oi := _) (v := ?_) rfl (by kernel_rfl) (by kernel_rfl) (by kernel_rfl) (fun _ _ _ h => h) (Or.inl ⟨by rfl, ?_⟩) (by assumption) ?_; rotate_left; (focus (intro wS hSw; (try dsimp only at hSw); go_simp; (try with_reducible rfl); done)); (try simp only [List.getElem_toArray, List.getElem_cons_succ, List.getElem_cons_zero, Act.put, List.setIfInBounds_toArray, List.set_cons_zero, List.set_cons_succ]))
              (refine wpAnyH_take (i := 32) (oi := _) (v := ?_) rfl (by kernel_rfl) (by kernel_rfl) (by kernel_rfl) (fun _ _ _ h => h) (Or.inl ⟨by rfl, ?_⟩) (by assumption) ?_; rotate_left; (focus (intro wS hSw; (try dsimp only at hSw); go_simp; (try with_reducible rfl); done)); (try simp only [List.getElem_toArray, List.getElem_cons_succ, List.getElem_cons_zero, Act.put, List.setIfInBounds_toArray, List.set_cons_zero, List.set_cons_succ]))
              (refine wpAnyH_take (i := 33) (oi := _) (v := ?_) rfl (by kernel_rfl) (by kernel_rfl) (by kernel_rfl) (fun _ _ _ h => h) (Or.inl ⟨by rfl, ?_⟩) (by assumption) ?_; rotate_left; (focus (intro wS hSw; (try dsimp only at hSw); go_simp; (try with_reducible rfl); done)); (try simp only [List.getElem_toArray, List.getElem_cons_succ, List.getElem_cons_zero, Act.put, List.setIfInBounds_toArray, List.set_cons_zero, List.set_cons_succ]))
              refine wpAnyH_ready (rs := [34]) (by kernel_rfl) (by simp) ?_
              refine AllReadyH.cons (o := _) rfl (fun K hK => ?_) AllReadyH.nil
              go_simp
              refine (sameFlash_c _ _ _ _ x _ (FlashRd.below HX8.out (by repeat (first | with_reducible exact Below.refl _ _ | with_reducible refine below_drewN ?_ _ | with_reducible refine Below.drew ?_ | with_reducible refine Below.alloc ?_ ?_ _ | with_reducible refine Below.setCell ?_ ?_ _ | omega | (focus (simp; omega)) | (focus (simp; done))))) (FlashRd.below HFX8.out (by repeat (first | with_reducible exact Below.refl _ _ | with_reducible refine below_drewN ?_ _ | with_reducible refine Below.drew ?_ | with_reducible refine Below.alloc ?_ ?_ _ | with_reducible refine Below.setCell ?_ ?_ _ | omega | (focus (simp; omega)) | (focus (simp; done))))) hxsz.out).mono ?_
              rintro e w9 ⟨rfl, hb9⟩
              have LS9 := Loc.carryB LS8 (fun h => by ((repeat (first | with_reducible exact h | with_reducible refine Loc.drew ?_ | with_reducible refine Loc.drewN ?_ _ | with_reducible refine Loc.alloc ?_ _)); done)) hb9; obtain ⟨s0_9, s1_9, sf_9⟩ := LS9.two; have zS_9 := LS9.lt; have LX9 := Loc.carryB LX8 (fun h => by ((repeat (first | with_reducible exact h | with_reducible refine Loc.drew ?_ | with_reducible refine Loc.drewN ?_ _ | with_reducible refine Loc.alloc ?_ _)); done)) hb9; obtain ⟨r0_9, r1_9, rf_9⟩ := LX9.two; have zX_9 := LX9.lt; have HB9 : Hid (Below w.heap.size w w9) := Lib.hid (Below.next (W := w) (by repeat (first | with_reducible exact HB8.out | with_reducible exact Below.refl _ _ | with_reducible refine below_drewN ?_ _ | with_reducible refine Below.drew ?_ | with_reducible refine Below.alloc ?_ ?_ _ | with_reducible refine Below.setCell ?_ ?_ _ | (with_reducible refine Below.next ?_ (by assumption)) | ((with_reducible refine Below.far' (by assumption) ?_ ?_ ?_); (focus (first | omega | (simp; omega) | (simp; done))); (focus (first | omega | (simp; omega) | (simp; done)))) | omega | (focus (simp; omega)) | (focus (simp; done)))) hb9); have HF9 := Lib.hid (FlashRd.below HF8.out (Below.next (by repeat (first | with_reducible exact Below.refl _ _ | with_reducible refine below_drewN ?_ _ | with_reducible refine Below.drew ?_ | with_reducible refine Below.alloc ?_ ?_ _ | with_reducible refine Below.setCell ?_ ?_ _ | omega | (focus (simp; omega)) | (focus (simp; done)))) hb9)); have HX9 := Lib.hid (FlashRd.below HX8.out (Below.next (by repeat (first | with_reducible exact Below.refl _ _ | with_reducible refine below_drewN ?_ _ | with_reducible refine Below.drew ?_ | with_reducible refine Below.alloc ?_ ?_ _ | with_reducible refine Below.setCell ?_ ?_ _ | omega | (focus (simp; omega)) | (focus (simp; done)))) hb9)); have hz9 := hb9.size; (try simp at hz9)
              clear hb9
              go_wp2_with fail
              refine hK.out _ _ ?_ (fun hHeld => ?_)
              focus (exact ⟨s0_9, s1_9, r0_9, r1_9⟩)
              clear hK K
              try simp only [List.getElem_toArray, List.getElem_cons_succ, List.getElem_cons_zero, Act.put, List.setIfInBounds_toArray, List.set_cons_zero, List.set_cons_succ]
              (refine wpAnyH_take (i := 35) (oi := _) (v := ?_) rfl (by kernel_rfl) (by kernel_rfl) (by kernel_rfl) (fun _ _ _ h => h) (Or.inl ⟨by rfl, ?_⟩) (by assumption) ?_; rotate_left; (focus (intro wS hSw; (try dsimp only at hSw); go_simp; (try with_reducible rfl); done)); (try simp only [List.getElem_toArray, List.getElem_cons_succ, List.getElem_cons_zero, Act.put, List.setIfInBounds_toArray, List.set_cons_zero, List.set_cons_succ]))
              (refine wpAnyH_take (i := 36) (oi := _) (v := ?_) rfl (by kernel_rfl) (by kernel_rfl) (by kernel_rfl) (fun _ _ _ h => h) (Or.inl ⟨by rfl, ?_⟩) (by assumption) ?_; rotate_left; (focus (intro wS hSw; (try dsimp only at hSw); go_simp; (try with_reducible rfl); done)); (try simp only [List.getElem_toArray, List.getElem_cons_succ, List.getElem_cons_zero, Act.put, List.setIfInBounds_toArray, List.set_cons_zero, List.set_cons_succ]))
              (refine wpAnyH_take (i := 37) (oi := _) (v := ?_) rfl (by kernel_rfl) (by kernel_rfl) (by kernel_rfl) (fun _ _ _ h => h) (Or.inl ⟨by rfl, ?_⟩) (by assumption) ?_; rotate_left; (focus (intro wS hSw; (try dsimp only at hSw); go_simp; (try with_reducible rfl); done)); (try simp only [List.getElem_toArray, List.getElem_cons_succ, List.getElem_cons_zero, Act.put, List.setIfInBounds_toArray, List.set_cons_zero, List.set_cons_succ]))
              (refine wpAnyH_take (i := 38) (oi := _) (v := ?_) rfl (by kernel_rfl) (by kernel_rfl) (by kernel_rfl) (fun _ _ _ h => h) (Or.inl ⟨by rfl, ?_⟩) (by assumption) ?_; rotate_left; (focus (intro wS hSw; (try dsimp only at hSw); go_simp; (try with_reducible rfl); done)); (try simp only [List.getElem_toArray, List.getElem_cons_succ, List.getElem_cons_zero, Act.put, List.setIfInBounds_toArray, List.set_cons_zero, List.set_cons_succ]))
              refine wpAnyH_done (by kernel_rfl) ?_ _
              refine NoPanic.normal ?_
              go_wp2
              go_ret
              exact ⟨rfl, (by repeat (first | with_reducible exact HB9.out | with_reducible exact Below.refl _ _ | with_reducible refine below_drewN ?_ _ | with_reducible refine Below.drew ?_ | with_reducible refine Below.alloc ?_ ?_ _ | with_reducible refine Below.setCell ?_ ?_ _ | (with_reducible refine Below.next ?_ (by assumption)) | ((with_reducible refine Below.far' (by assumption) ?_ ?_ ?_); (focus (first | omega | (simp; omega) | (simp; done))); (focus (first | omega | (simp; omega) | (simp; done)))) | omega | (focus (simp; omega)) | (focus (simp; done))))⟩
            · have hwe1 := hwx rfl
              subst hwe1
              have hSp : (0 < S) = True := by have := HSO.out; simpa using this
              have hFR1 : 0 < FR := HFR.out rfl
              have HFX5 : Hid True := Lib.hid trivial
              clear hwx
              go_wp2
              refine wp_region_noPanic ?_
              refine wp_region_held_drew (S := (fun w' => w'.cell? ⟨w1.heap.size, 0, none⟩ = some (.slice A0 f.pages.length c0) ∧ w'.cell? ⟨w1.heap.size, 1, none⟩ = some (.slice A1 f.erases.length c1) ∧ w'.cell? ⟨w2.heap.size, 0, none⟩ = some (.slice B0 x.pages.length d0) ∧ w'.cell? ⟨w2.heap.size, 1, none⟩ = some (.slice B1 x.erases.length d1))) (by kernel_rfl) ?_ (fun hHeld => ?_)
              focus (exact ⟨s0_5, s1_5, r0_5, r1_5⟩)
              (refine wpAnyH_take (i := 0) (oi := _) (v := ?_) rfl (by kernel_rfl) (by kernel_rfl) (by kernel_rfl) (fun _ _ _ h => h) (Or.inl ⟨by rfl, ?_⟩) (by assumption) ?_; rotate_left; (focus (intro wS hSw; (try dsimp only at hSw); go_simp; (try with_reducible rfl); done)); (try simp only [List.getElem_toArray, List.getElem_cons_succ, List.getElem_cons_zero, Act.put, List.setIfInBounds_toArray, List.set_cons_zero, List.set_cons_succ]))
              (refine wpAnyH_take (i := 2) (oi := _) (v := ?_) rfl (by kernel_rfl) (by kernel_rfl) (by kernel_rfl) (fun _ _ _ h => h) (Or.inl ⟨by rfl, ?_⟩) (by assumption) ?_; rotate_left; (focus (intro wS hSw; (try dsimp only at hSw); go_simp; (try with_reducible rfl); done)); (try simp only [List.getElem_toArray, List.getElem_cons_succ, List.getElem_cons_zero, Act.put, List.setIfInBounds_toArray, List.set_cons_zero, List.set_cons_succ]))
              refine wpAnyH_ready (rs := [1]) (by kernel_rfl) (by simp) ?_
              refine AllReadyH.cons (o := _) rfl (fun K hK => ?_) AllReadyH.nil
              go_simp
              refine (implView_c (.slice B0 x.pages.length d0) _ x _ (FlashRd.below HX5.out (by repeat (first | with_reducible exact Below.refl _ _ | with_reducible refine below_drewN ?_ _ | with_reducible refine Below.drew ?_ | with_reducible refine Below.alloc ?_ ?_ _ | with_reducible refine Below.setCell ?_ ?_ _ | omega | (focus (simp; omega)) | (focus (simp; done))))) hxsz.out).mono ?_
              rw [← HVX.out]
              rintro e w7 ⟨u7, rfl, o7, hb7⟩
              obtain ⟨A7, c7, gg7, rfl, -, -⟩ := id o7
              have LS7 := Loc.carryB LS5 (fun h => by ((repeat (first | with_reducible exact h | with_reducible refine Loc.drew ?_ | with_reducible refine Loc.drewN ?_ _ | with_reducible refine Loc.alloc ?_ _)); done)) hb7; obtain ⟨s0_7, s1_7, sf_7⟩ := LS7.two; have zS_7 := LS7.lt; have LX7 := Loc.carryB LX5 (fun h => by ((repeat (first | with_reducible exact h | with_reducible refine Loc.drew ?_ | with_reducible refine Loc.drewN ?_ _ | with_reducible refine Loc.alloc ?_ _)); done)) hb7; obtain ⟨r0_7, r1_7, rf_7⟩ := LX7.two; have zX_7 := LX7.lt; have HB7 : Hid (Below w.heap.size w w7) := Lib.hid (Below.next (W := w) (by repeat (first | with_reducible exact HB5.out | with_reducible exact Below.refl _ _ | with_reducible refine below_drewN ?_ _ | with_reducible refine Below.drew ?_ | with_reducible refine Below.alloc ?_ ?_ _ | with_reducible refine Below.setCell ?_ ?_ _ | (with_reducible refine Below.next ?_ (by assumption)) | ((with_reducible refine Below.far' (by assumption) ?_ ?_ ?_); (focus (first | omega | (simp; omega) | (simp; done))); (focus (first | omega | (simp; omega) | (simp; done)))) | omega | (focus (simp; omega)) | (focus (simp; done)))) hb7); have HF7 := Lib.hid (FlashRd.below HF5.out (Below.next (by repeat (first | with_reducible exact Below.refl _ _ | with_reducible refine below_drewN ?_ _ | with_reducible refine Below.drew ?_ | with_reducible refine Below.alloc ?_ ?_ _ | with_reducible refine Below.setCell ?_ ?_ _ | omega | (focus (simp; omega)) | (focus (simp; done)))) hb7)); have HX7 := Lib.hid (FlashRd.below HX5.out (Below.next (by repeat (first | with_reducible exact Below.refl _ _ | with_reducible refine below_drewN ?_ _ | with_reducible refine Below.drew ?_ | with_reducible refine Below.alloc ?_ ?_ _ | with_reducible refine Below.setCell ?_ ?_ _ | omega | (focus (simp; omega)) | (focus (simp; done)))) hb7)); have hz7 := hb7.size; (try simp at hz7)
              have H7 := Lib.hid (SOwn.rd o7)
              clear o7 hb7
              go_wp2_with fail
              refine hK.out _ _ ?_ (fun hHeld => ?_)
              focus (exact ⟨s0_7, s1_7, r0_7, r1_7⟩)
              clear hK K
              try simp only [List.getElem_toArray, List.getElem_cons_succ, List.getElem_cons_zero, Act.put, List.setIfInBounds_toArray, List.set_cons_zero, List.set_cons_succ]
              refine wpAnyH_ready (rs := [3]) (by kernel_rfl) (by simp) ?_
              refine AllReadyH.cons (o := _) rfl (fun K hK => ?_) AllReadyH.nil
              go_simp
              refine (implView_c (.slice A0 f.pages.length c0) _ f _ (FlashRd.below HF7.out (by repeat (first | with_reducible exact Below.refl _ _ | with_reducible refine below_drewN ?_ _ | with_reducible refine Below.drew ?_ | with_reducible refine Below.alloc ?_ ?_ _ | with_reducible refine Below.setCell ?_ ?_ _ | omega | (focus (simp; omega)) | (focus (simp; done))))) hszs.out).mono ?_
              rw [← HVF.out]
              rintro e w8 ⟨u8, rfl, o8, hb8⟩
              obtain ⟨A8, c8, gg8, rfl, -, -⟩ := id o8
              have LS8 := Loc.carryB LS7 (fun h => by ((repeat (first | with_reducible exact h | with_reducible refine Loc.drew ?_ | with_reducible refine Loc.drewN ?_ _ | with_reducible refine Loc.alloc ?_ _)); done)) hb8; obtain ⟨s0_8, s1_8, sf_8⟩ := LS8.two; have zS_8 := LS8.lt; have LX8 := Loc.carryB LX7 (fun h => by ((repeat (first | with_reducible exact h | with_reducible refine Loc.drew ?_ | with_reducible refine Loc.drewN ?_ _ | with_reducible refine Loc.alloc ?_ _)); done)) hb8; obtain ⟨r0_8, r1_8, rf_8⟩ := LX8.two; have zX_8 := LX8.lt; have HB8 : Hid (Below w.heap.size w w8) := Lib.hid (Below.next (W := w) (by repeat (first | with_reducible exact HB7.out | with_reducible exact Below.refl _ _ | with_reducible refine below_drewN ?_ _ | with_reducible refine Below.drew ?_ | with_reducible refine Below.alloc ?_ ?_ _ | with_reducible refine Below.setCell ?_ ?_ _ | (with_reducible refine Below.next ?_ (by assumption)) | ((with_reducible refine Below.far' (by assumption) ?_ ?_ ?_); (focus (first | omega | (simp; omega) | (simp; done))); (focus (first | omega | (simp; omega) | (simp; done)))) | omega | (focus (simp; omega)) | (focus (simp; done)))) hb8); have HF8 := Lib.hid (FlashRd.below HF7.out (Below.next (by repeat (first | with_reducible exact Below.refl _ _ | with_reducible refine below_drewN ?_ _ | with_reducible refine Below.drew ?_ | with_reducible refine Below.alloc ?_ ?_ _ | with_reducible refine Below.setCell ?_ ?_ _ | omega | (focus (simp; omega)) | (focus (simp; done)))) hb8)); have HX8 := Lib.hid (FlashRd.below HX7.out (Below.next (by repeat (first | with_reducible exact Below.refl _ _ | with_reducible refine below_drewN ?_ _ | with_reducible refine Below.drew ?_ | with_reducible refine Below.alloc ?_ ?_ _ | with_reducible refine Below.setCell ?_ ?_ _ | omega | (focus (simp; omega)) | (focus (simp; done)))) hb8)); have hz8 := hb8.size; (try simp at hz8)
              have H8 := Lib.hid (SOwn.rd o8)
              have H78 := Lib.hid (SRd.below H7.out (Below.next (by repeat (first | with_reducible exact Below.refl _ _ | with_reducible refine below_drewN ?_ _ | with_reducible refine Below.drew ?_ | with_reducible refine Below.alloc ?_ ?_ _ | with_reducible refine Below.setCell ?_ ?_ _ | omega | (focus (simp; omega)) | (focus (simp; done)))) hb8))
              clear o8 hb8
              go_wp2_with fail
              refine hK.out _ _ ?_ (fun hHeld => ?_)
              focus (exact ⟨s0_8, s1_8, r0_8, r1_8⟩)
              clear hK K
              try simp only [List.getElem_toArray, List.getElem_cons_succ, List.getElem_cons_zero, Act.put, List.setIfInBounds_toArray, List.set_cons_zero, List.set_cons_succ]
              refine wpAnyH_ready (rs := [4]) (by kernel_rfl) (by simp) ?_
              refine AllReadyH.cons (o := _) rfl (fun K hK => ?_) AllReadyH.nil
              go_simp
              refine (sameInts_v (.slice A7 vx.length c7) (.slice A8 vx.length c8) vx vx _ (SRd.below H78.out (by repeat (first | with_reducible exact Below.refl _ _ | with_reducible refine below_drewN ?_ _ | with_reducible refine Below.drew ?_ | with_reducible refine Below.alloc ?_ ?_ _ | with_reducible refine Below.setCell ?_ ?_ _ | omega | (focus (simp; omega)) | (focus (simp; done))))) (SRd.below H8.out (by repeat (first | with_reducible exact Below.refl _ _ | with_reducible refine below_drewN ?_ _ | with_reducible refine Below.drew ?_ | with_reducible refine Below.alloc ?_ ?_ _ | with_reducible refine Below.setCell ?_ ?_ _ | omega | (focus (simp; omega)) | (focus (simp; done))))) (by omega) (by omega)).mono ?_
              rw [dec_refl]
              rintro e w10 ⟨rfl, q10, rfl⟩
              go_wp2_with fail
              refine hK.out _ _ ?_ (fun hHeld => ?_)
              focus (exact ⟨s0_8, s1_8, r0_8, r1_8⟩)
              clear hK K
              try simp only [List.getElem_toArray, List.getElem_cons_succ, List.getElem_cons_zero, Act.put, List.setIfInBounds_toArray, List.set_cons_zero, List.set_cons_succ]
              (try clear HB1)
              (try clear HF1)
              (try clear HX1)
              (try clear HB2)
              (try clear HF2)
              (try clear HX2)
              (try clear HB3)
              (try clear HF3)
              (try clear HX3)
              (try clear HB4)
              (try clear HF4)
              (try clear HX4)
              (try clear HB5)
              (try clear HF5)
              (try clear HX5)
              (try clear HB7)
              (try clear HF7)
              (try clear HX7)
              (try clear LS2)
              (try clear LX2)
              (try clear LS3)
              (try clear LX3)
              (try clear LS4)
              (try clear LX4)
              (try clear LS5)
              (try clear LX5)
              (try clear LS7)
              (try clear LX7)
              (try clear LS8)
              (try clear LX8)
              (try clear s0_5)
              (try clear s1_5)
              (try clear sf_5)
              (try clear r0_5)
              (try clear r1_5)
              (try clear rf_5)
              (try clear s0_7)
              (try clear s1_7)
              (try clear sf_7)
              (try clear r0_7)
              (try clear r1_7)
              (try clear rf_7)
              (try clear s0_8)
              (try clear s1_8)
              (try clear sf_8)
              (try clear r0_8)
              (try clear r1_8)
              (try clear rf_8)
              (try clear zS_2)
              (try clear zX_2)
              (try clear hz2)
              (try clear zS_3)
              (try clear zX_3)
              (try clear hz3)
              (try clear zS_4)
              (try clear zX_4)
              (try clear hz4)
              (try clear zS_5)
              (try clear zX_5)
              (try clear hz5)
              (try clear zS_7)
              (try clear zX_7)
              (try clear hz7)
              (try clear zS_8)
              (try clear zX_8)
              (try clear hz8)
              (try clear hz1)
              (try clear HPF)
              (try clear HPX)
              (try clear HEF)
              (try clear HEX)
              (try clear HBG)
              (try clear HSM)
              (try clear HB)
              (try clear H7)
              (try clear H78)
              (try clear H8)
              (try clear HXD)
              (try clear HOD)
              (try clear HWE)
              (try clear HS)
              (try clear HG)
              (try clear HFE)
              (try clear HVX)
              (try clear HVF)
              (try clear hl)
              (try clear hm)
              (try clear hr)
              (try clear hfp)
              (try clear hfe)
              (try clear hxp)
              (try clear hxe)
              (try clear hp1)
              (try clear hp2)
              (try clear hxe1)
              (try clear hxe2)
              (try clear hS0)
              (try clear hS1)
              (try clear hG0)
              (try clear hG1)
              (try clear hxl2)
              (try clear hk)
              (try clear hlt)
              (try clear hj)
              (try clear hjl)
              (try clear HSO)
              (try clear HFR)
              (try clear hHeld0)
              (refine wpAnyH_take (i := 5) (oi := _) (v := ?_) rfl (by kernel_rfl) (by kernel_rfl) (by kernel_rfl) (fun _ _ _ h => h) (Or.inl ⟨by rfl, ?_⟩) (by assumption) ?_; rotate_left; (focus (intro wS hSw; (try dsimp only at hSw); go_simp; (try with_reducible rfl); done)); (try simp only [List.getElem_toArray, List.getElem_cons_succ, List.getElem_cons_zero, Act.put, List.setIfInBounds_toArray, List.set_cons_zero, List.set_cons_succ]))
              (refine wpAnyH_take (i := 6) (oi := _) (v := ?_) rfl (by kernel_rfl) (by kernel_rfl) (by kernel_rfl) (fun _ _ _ h => h) (Or.inl ⟨by rfl, ?_⟩) (by assumption) ?_; rotate_left; (focus (intro wS hSw; (try dsimp only at hSw); go_simp; (try with_reducible rfl); done)); (try simp only [List.getElem_toArray, List.getElem_cons_succ, List.getElem_cons_zero, Act.put, List.setIfInBounds_toArray, List.set_cons_zero, List.set_cons_succ]))
              (refine wpAnyH_take (i := 7) (oi := _) (v := ?_) rfl (by kernel_rfl) (by kernel_rfl) (by kernel_rfl) (fun _ _ _ h => h) (Or.inl ⟨by rfl, ?_⟩) (by assumption) ?_; rotate_left; (focus (intro wS hSw; (try dsimp only at hSw); go_simp; (try with_reducible rfl); done)); (try simp only [List.getElem_toArray, List.getElem_cons_succ, List.getElem_cons_zero, Act.put, List.setIfInBounds_toArray, List.set_cons_zero, List.set_cons_succ]))
              (refine wpAnyH_take (i := 8) (oi := _) (v := ?_) rfl (by kernel_rfl) (by kernel_rfl) (by kernel_rfl) (fun _ _ _ h => h) (Or.inl ⟨by rfl, ?_⟩) (by assumption) ?_; rotate_left; (focus (intro wS hSw; (try dsimp only at hSw); go_simp; (try with_reducible rfl); done)); (try simp only [List.getElem_toArray, List.getElem_cons_succ, List.getElem_cons_zero, Act.put, List.setIfInBounds_toArray, List.set_cons_zero, List.set_cons_succ]))
              (refine wpAnyH_take (i := 9) (oi := _) (v := ?_) rfl (by kernel_rfl) (by kernel_rfl) (by kernel_rfl) (fun _ _ _ h => h) (Or.inl ⟨by rfl, ?_⟩) (by assumption) ?_; rotate_left; (focus (intro wS hSw; (try dsimp only at hSw); go_simp; (try with_reducible rfl); done)); (try simp only [List.getElem_toArray, List.getElem_cons_succ, List.getElem_cons_zero, Act.put, List.setIfInBounds_toArray, List.set_cons_zero, List.set_cons_succ]))
              (refine wpAnyH_take (i := 10) (oi := _) (v := ?_) rfl (by kernel_rfl) (by kernel_rfl) (by kernel_rfl) (fun _ _ _ h => h) (Or.inl ⟨by rfl, ?_⟩) (by assumption) ?_; rotate_left; (focus (intro wS hSw; (try dsimp only at hSw); go_simp; (try with_reducible rfl); done)); (try simp only [List.getElem_toArray, List.getElem_cons_succ, List.getElem_cons_zero, Act.put, List.setIfInBounds_toArray, List.set_cons_zero, List.set_cons_succ]))
              (refine wpAnyH_take (i := 11) (oi := _) (v := ?_) rfl (by kernel_rfl) (by kernel_rfl) (by kernel_rfl) (fun _ _ _ h => h) (Or.inl ⟨by rfl, ?_⟩) (by assumption) ?_; rotate_left; (focus (intro wS hSw; (try dsimp only at hSw); go_simp; (try with_reducible rfl); done)); (try simp only [List.getElem_toArray, List.getElem_cons_succ, List.getElem_cons_zero, Act.put, List.setIfInBounds_toArray, List.set_cons_zero, List.set_cons_succ]))
              (refine wpAnyH_take (i := 12) (oi := _) (v := ?_) rfl (by kernel_rfl) (by kernel_rfl) (by kernel_rfl) (fun _ _ _ h => h) (Or.inl ⟨by rfl, ?_⟩) (by assumption) ?_; rotate_left; (focus (intro wS hSw; (try dsimp only at hSw); go_simp; (try with_reducible rfl); done)); (try simp only [List.getElem_toArray, List.getElem_cons_succ, List.getElem_cons_zero, Act.put, List.setIfInBounds_toArray, List.set_cons_zero, List.set_cons_succ]))
              (refine wpAnyH_take (i := 13) (oi := _) (v := ?_) rfl (by kernel_rfl) (by kernel_rfl) (by kernel_rfl) (fun _ _ _ h => h) (Or.inl ⟨by rfl, ?_⟩) (by assumption) ?_; rotate_left; (focus (intro wS hSw; (try dsimp only at hSw); go_simp; (try with_reducible rfl); done)); (try simp only [List.getElem_toArray, List.getElem_cons_succ, List.getElem_cons_zero, Act.put, List.setIfInBounds_toArray, List.set_cons_zero, List.set_cons_succ]))
              (refine wpAnyH_take (i := 14) (oi := _) (v := ?_) rfl (by kernel_rfl) (by kernel_rfl) (by kernel_rfl) (fun _ _ _ h => h) (Or.inl ⟨by rfl, ?_⟩) (by assumption) ?_; rotate_left; (focus (intro wS hSw; (try dsimp only at hSw); go_simp; (try with_reducible rfl); done)); (try simp only [List.getElem_toArray, List.getElem_cons_succ, List.getElem_cons_zero, Act.put, List.setIfInBounds_toArray, List.set_cons_zero, List.set_cons_succ]))
              (refine wpAnyH_take (i := 15) (oi := _) (v := ?_) rfl (by kernel_rfl) (by kernel_rfl) (by kernel_rfl) (fun _ _ _ h => h) (Or.inl ⟨by rfl, ?_⟩) (by assumption) ?_; rotate_left; (focus (intro wS hSw; (try dsimp only at hSw); go_simp; (try with_reducible rfl); done)); (try simp only [List.getElem_toArray, List.getElem_cons_succ, List.getElem_cons_zero, Act.put, List.setIfInBounds_toArray, List.set_cons_zero, List.set_cons_succ]))
              (refine wpAnyH_take (i := 16) (oi := _) (v := ?_) rfl (by kernel_rfl) (by kernel_rfl) (by kernel_rfl) (fun _ _ _ h => h) (Or.inl ⟨by rfl, ?_⟩) (by assumption) ?_; rotate_left; (focus (intro wS hSw; (try dsimp only at hSw); go_simp; (try with_reducible rfl); done)); (try simp only [List.getElem_toArray, List.getElem_cons_succ, List.getElem_cons_zero, Act.put, List.setIfInBounds_toArray, List.set_cons_zero, List.set_cons_succ]))
              (refine wpAnyH_take (i := 17) (oi := _) (v := ?_) rfl (by kernel_rfl) (by kernel_rfl) (by kernel_rfl) (fun _ _ _ h => h) (Or.inl ⟨by rfl, ?_⟩) (by assumption) ?_; rotate_left; (focus (intro wS hSw; (try dsimp only at hSw); go_simp; (try with_reducible rfl); done)); (try simp only [List.getElem_toArray, List.getElem_cons_succ, List.getElem_cons_zero, Act.put, List.setIfInBounds_toArray, List.set_cons_zero, List.set_cons_succ]))
              (refine wpAnyH_take (i := 18) (oi := _) (v := ?_) rfl (by kernel_rfl) (by kernel_rfl) (by kernel_rfl) (fun _ _ _ h => h) (Or.inl ⟨by rfl, ?_⟩) (by assumption) ?_; rotate_left; (focus (intro wS hSw; (try dsimp only at hSw); go_simp; (try with_reducible rfl); done)); (try simp only [List.getElem_toArray, List.getElem_cons_succ, List.getElem_cons_zero, Act.put, List.setIfInBounds_toArray, List.set_cons_zero, List.set_cons_succ]))
              (refine wpAnyH_take (i := 19) (oi := _) (v := ?_) rfl (by kernel_rfl) (by kernel_rfl) (by kernel_rfl) (fun _ _ _ h => h) (Or.inl ⟨by rfl, ?_⟩) (by assumption) ?_; rotate_left; (focus (intro wS hSw; (try dsimp only at hSw); go_simp; (try with_reducible rfl); done)); (try simp only [List.getElem_toArray, List.getElem_cons_succ, List.getElem_cons_zero, Act.put, List.setIfInBounds_toArray, List.set_cons_zero, List.set_cons_succ]))
              (refine wpAnyH_take (i := 20) (oi := _) (v := ?_) rfl (by kernel_rfl) (by kernel_rfl) (by kernel_rfl) (fun _ _ _ h => h) (Or.inl ⟨by rfl, ?_⟩) (by assumption) ?_; rotate_left; (focus (intro wS hSw; (try dsimp only at hSw); go_simp; (try with_reducible rfl); done)); (try simp only [List.getElem_toArray, List.getElem_cons_succ, List.getElem_cons_zero, Act.put, List.setIfInBounds_toArray, List.set_cons_zero, List.set_cons_succ]))
              (refine wpAnyH_take (i := 21) (oi := _) (v := ?_) rfl (by kernel_rfl) (by kernel_rfl) (by kernel_rfl) (fun _ _ _ h => h) (Or.inl ⟨by rfl, ?_⟩) (by assumption) ?_; rotate_left; (focus (intro wS hSw; (try dsimp only at hSw); go_simp; (try with_reducible rfl); done)); (try simp only [List.getElem_toArray, List.getElem_cons_succ, List.getElem_cons_zero, Act.put, List.setIfInBounds_toArray, List.set_cons_zero, List.set_cons_succ]))
              (refine wpAnyH_take (i := 22) (oi := _) (v := ?_) rfl (by kernel_rfl) (by kernel_rfl) (by kernel_rfl) (fun _ _ _ h => h) (Or.inl ⟨by rfl, ?_⟩) (by assumption) ?_; rotate_left; (focus (intro wS hSw; (try dsimp only at hSw); go_simp; (try with_reducible rfl); done)); (try simp only [List.getElem_toArray, List.getElem_cons_succ, List.getElem_cons_zero, Act.put, List.setIfInBounds_toArray, List.set_cons_zero, List.set_cons_succ]))
              (refine wpAnyH_take (i := 23) (oi := _) (v := ?_) rfl (by kernel_rfl) (by kernel_rfl) (by kernel_rfl) (fun _ _ _ h => h) (Or.inl ⟨by rfl, ?_⟩) (by assumption) ?_; rotate_left; (focus (intro wS hSw; (try dsimp only at hSw); go_simp; (try with_reducible rfl); done)); (try simp only [List.getElem_toArray, List.getElem_cons_succ, List.getElem_cons_zero, Act.put, List.setIfInBounds_toArray, List.set_cons_zero, List.set_cons_succ]))
              (refine wpAnyH_take (i := 24) (oi := _) (v := ?_) rfl (by kernel_rfl) (by kernel_rfl) (by kernel_rfl) (fun _ _ _ h => h) (Or.inl ⟨by rfl, ?_⟩) (by assumption) ?_; rotate_left; (focus (intro wS hSw; (try dsimp only at hSw); go_simp; (try with_reducible rfl); done)); (try simp only [List.getElem_toArray, List.getElem_cons_succ, List.getElem_cons_zero, Act.put, List.setIfInBounds_toArray, List.set_cons_zero, List.set_cons_succ]))
              (refine wpAnyH_take (i := 25) (oi := _) (v := ?_) rfl (by kernel_rfl) (by kernel_rfl) (by kernel_rfl) (fun _ _ _ h => h) (Or.inl ⟨by rfl, ?_⟩) (by assumption) ?_; rotate_left; (focus (intro wS hSw; (try dsimp only at hSw); go_simp; (try with_reducible rfl); done)); (try simp only [List.getElem_toArray, List.getElem_cons_succ, List.getElem_cons_zero, Act.put, List.setIfInBounds_toArray, List.set_cons_zero, List.set_cons_succ]))
              (refine wpAnyH_take (i := 26) (oi := _) (v := ?_) rfl (by kernel_rfl) (by kernel_rfl) (by kernel_rfl) (fun _ _ _ h => h) (Or.inl ⟨by rfl, ?_⟩) (by assumption) ?_; rotate_left; (focus (intro wS hSw; (try dsimp only at hSw); go_simp; (try with_reducible rfl); done)); (try simp only [List.getElem_toArray, List.getElem_cons_succ, List.getElem_cons_zero, Act.put, List.setIfInBounds_toArray, List.set_cons_zero, List.set_cons_succ]))
              (refine wpAnyH_take (i := 27) (oi := _) (v := ?_) rfl (by kernel_rfl) (by kernel_rfl) (by kernel_rfl) (fun _ _ _ h => h) (Or.inl ⟨by rfl, ?_⟩) (by assumption) ?_; rotate_left; (focus (intro wS hSw; (try dsimp only at hSw); go_simp; (try with_reducible rfl); done)); (try simp only [List.getElem_toArray, List.getElem_cons_succ, List.getElem_cons_zero, Act.put, List.setIfInBounds_toArray, List.set_cons_zero, List.set_cons_succ]))
              (refine wpAnyH_take (i := 28) (oi := _) (v := ?_) rfl (by kernel_rfl) (by kernel_rfl) (by kernel_rfl) (fun _ _ _ h => h) (Or.inl ⟨by rfl, ?_⟩) (by assumption) ?_; rotate_left; (focus (intro wS hSw; (try dsimp only at hSw); go_simp; (try with_reducible rfl); done)); (try simp only [List.getElem_toArray, List.getElem_cons_succ, List.getElem_cons_zero, Act.put, List.setIfInBounds_toArray, List.set_cons_zero, List.set_cons_succ]))
              (refine wpAnyH_take (i := 29) (oi := _) (v := undef) rfl (by kernel_rfl) (by kernel_rfl) (by kernel_rfl) (fun _ _ _ h => h) (Or.inr ⟨by rfl, rfl⟩) (by assumption) ?_; (try simp only [List.getElem_toArray, List.getElem_cons_succ, List.getElem_cons_zero, Act.put, List.setIfInBounds_toArray, List.set_cons_zero, List.set_cons_succ]))
              (refine wpAnyH_take (i := 30) (oi := _) (v := undef) rfl (by kernel_rfl) (by kernel_rfl) (by kernel_rfl) (fun _ _ _ h => h) (Or.inr ⟨by rfl, rfl⟩) (by assumption) ?_; (try simp only [List.getElem_toArray, List.getElem_cons_succ, List.getElem_cons_zero, Act.put, List.setIfInBounds_toArray, List.set_cons_zero, List.set_cons_succ]))
              (refine wpAnyH_take (i := 31) (oi := _) (v := undef) rfl (by kernel_rfl) (by kernel_rfl) (by kernel_rfl) (fun _ _ _ h => h) (Or.inr ⟨by rfl, rfl⟩) (by assumption) ?_; (try simp only [List.getElem_toArray, List.getElem_cons_succ, List.getElem_cons_zero, Act.put, List.setIfInBounds_toArray, List.set_cons_zero, List.set_cons_succ]))
              (refine wpAnyH_take (i := 32) (oi := _) (v := undef) rfl (by kernel_rfl) (by kernel_rfl) (by kernel_rfl) (fun _ _ _ h => h) (Or.inr ⟨by rfl, rfl⟩) (by assumption) ?_; (try simp only [List.getElem_toArray, List.getElem_cons_succ, List.getElem_cons_zero, Act.put, List.setIfInBounds_toArray, List.set_cons_zero, List.set_cons_succ]))
              (refine wpAnyH_take (i := 33) (oi := _) (v := undef) rfl (by kernel_rfl) (by kernel_rfl) (by kernel_rfl) (fun _ _ _ h => h) (Or.inr ⟨by rfl, rfl⟩) (by assumption) ?_; (try simp only [List.getElem_toArray, List.getElem_cons_succ, List.getElem_cons_zero, Act.put, List.setIfInBounds_toArray, List.set_cons_zero, List.set_cons_succ]))
              (refine wpAnyH_take (i := 34) (oi := _) (v := undef) rfl (by kernel_rfl) (by kernel_rfl) (by kernel_rfl) (fun _ _ _ h => h) (Or.inr ⟨by rfl, rfl⟩) (by assumption) ?_; (try simp only [List.getElem_toArray, List.getElem_cons_succ, List.getElem_cons_zero, Act.put, List.setIfInBounds_toArray, List.set_cons_zero, List.set_cons_succ]))
              (refine wpAnyH_take (i := 35) (oi := _) (v := undef) rfl (by kernel_rfl) (by kernel_rfl) (by kernel_rfl) (fun _ _ _ h => h) (Or.inr ⟨by rfl, rfl⟩) (by assumption) ?_; (try simp only [List.getElem_toArray, List.getElem_cons_succ, List.getElem_cons_zero, Act.put, List.setIfInBounds_toArray, List.set_cons_zero, List.set_cons_succ]))
              (refine wpAnyH_take (i := 36) (oi := _) (v := ?_) rfl (by kernel_rfl) (by kernel_rfl) (by kernel_rfl) (fun _ _ _ h => h) (Or.inl ⟨by rfl, ?_⟩) (by assumption) ?_; rotate_left; (focus (intro wS hSw; (try dsimp only at hSw); go_simp; (try with_reducible rfl); done)); (try simp only [List.getElem_toArray, List.getElem_cons_succ, List.getElem_cons_zero, Act.put, List.setIfInBounds_toArray, List.set_cons_zero, List.set_cons_succ]))
              (refine wpAnyH_take (i := 37) (oi := _) (v := ?_) rfl (by kernel_rfl) (by kernel_rfl) (by kernel_rfl) (fun _ _ _ h => h) (Or.inl ⟨by rfl, ?_⟩) (by assumption) ?_; rotate_left; (focus (intro wS hSw; (try dsimp only at hSw); go_simp; (try with_reducible rfl); done)); (try simp only [List.getElem_toArray, List.getElem_cons_succ, List.getElem_cons_zero, Act.put, List.setIfInBounds_toArray, List.set_cons_zero, List.set_cons_succ]))
              (refine wpAnyH_take (i := 38) (oi := _) (v := ?_) rfl (by kernel_rfl) (by kernel_rfl) (by kernel_rfl) (fun _ _ _ h => h) (Or.inl ⟨by rfl, ?_⟩) (by assumption) ?_; rotate_left; (focus (intro wS hSw; (try dsimp only at hSw); go_simp; (try with_reducible rfl); done)); (try simp only [List.getElem_toArray, List.getElem_cons_succ, List.getElem_cons_zero, Act.put, List.setIfInBounds_toArray, List.set_cons_zero, List.set_cons_succ]))
              refine wpAnyH_done (by kernel_rfl) ?_ _
              refine NoPanic.normal ?_
              go_wp2
              go_ret
              exact ⟨rfl, (by repeat (first | with_reducible exact HB8.out | with_reducible exact Below.refl _ _ | with_reducible refine below_drewN ?_ _ | with_reducible refine Below.drew ?_ | with_reducible refine Below.alloc ?_ ?_ _ | with_reducible refine Below.setCell ?_ ?_ _ | (with_reducible refine Below.next ?_ (by assumption)) | ((with_reducible refine Below.far' (by assumption) ?_ ?_ ?_); (focus (first | omega | (simp; omega) | (simp; done))); (focus (first | omega | (simp; omega) | (simp; done)))) | omega | (focus (simp; omega)) | (focus (simp; done))))⟩
set_option maxRecDepth 100000 in
theorem lifted (os : Os) (started : os.Started) (H : Type) (enc : TypeId × Value → H) :
    ReturnsInHanded {} Try.checked os 12 .any (Rows.fnCollectBlockSpec.pre6 enc Try.prog Try.f12 Rows.fnCollectBlockRow.domain false) (Rows.fnCollectBlockSpec.post enc Try.prog Try.f12 false true false false) := by
  refine returnsInHanded_of_change (C := Try.checked) own_knob started (by kernel_rfl) Try.func12
    (ChangeSpec.witness6 (enc := enc) (C := Try.checked) false ⟨#[], #[.slice none 0 0], []⟩ 8 (by kernel_rfl) (by kernel_rfl) (by kernel_rfl) (by kernel_rfl)) ?_
  intro W base args ds gs before hval0 hW hcnd _
  have hval : ∀ (j : Nat) t v, Try.f12.params[j]? = some t → args[j]? = some v → Value.okWide Try.prog W .any base t v := hval0
  have hW' := hW
  obtain ⟨p, q, hA0, hV, rfl, hfz, hnd⟩ := hW
  have hA : DataW.TrodAll enc Try.prog W 0 (fun _ => true) true Try.f12.params.toList args.toList ds p := hA0
  rw [Try.params12] at hA hval
  obtain ⟨v0, vs0, d0, ds0, p0, q0, hargs, rfl, rfl, h0, r0⟩ := trodAll_cons hA
  obtain ⟨rfl, rfl, rfl⟩ := trodAll_nil r0
  obtain rfl : args = #[v0] := by cases args; simp_all
  obtain ⟨rfl, rfl⟩ := trodVars_none hV
  have k0 := h0
  have lt0 : ∀ x ∈ p0, x.block < W.heap.size := by obtain ⟨m, hm⟩ := k0; exact DataW.trod_lt m _ _ _ hm
  obtain ⟨A0, c0, l0, rfl, hl0, hm0, rd0, by0⟩ := open_bytes Try.underlying38 Try.underlying5 (by kernel_rfl) (hval 0 38 v0 rfl rfl) h0
  clear hA0 hval0
  refine (walk A0 c0 l0 W hl0 hm0 rd0 by0).mono fun e W' ⟨he, bel⟩ => ?_
  subst he
  exact ⟨_, rfl, _, _, _, [], _, [], hW', trodAll_mk1 (shut_bool Try.underlying4 _), (trodAll_cons_mk (Below.trod laid_out (by kernel_rfl) (of_decide_eq_true (by kernel_rfl)) k0 bel lt0) trodAll_mk0), rfl, bel.frame _, fun h => by cases h⟩
theorem over : Rows.fnCollectBlockRow.holds Try.pinned (OpenSpec.ofChange Rows.fnCollectBlockSpec) :=
  OpenClaim.holds_of_wide 12 Try.f12 rfl rfl rfl rfl rfl rfl rfl ⟨rfl, rfl, rfl, rfl, rfl⟩ rfl rfl rfl rfl rfl (by kernel_rfl) Try.func12 (by kernel_rfl)
    (of_decide_eq_true (by kernel_rfl)) (by unfold Func.isWrapper; first | (rw [if_pos (by decide +kernel)]; kernel_rfl) | (rw [if_neg (by decide +kernel)]; exact ⟨rfl, rfl⟩))
    (fun os started H enc _ => lifted os started H enc)
theorem proved : Rows.FnCollectBlockSaid := over
end LwFc
end Go.Proofs.Ytnnanknljpkdeaa
