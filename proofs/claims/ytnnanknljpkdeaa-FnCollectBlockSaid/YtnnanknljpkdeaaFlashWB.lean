/-
  FlashWrite: the program's and the reference's. Conditions: lengths at most 2^40.
-/
import Derived.Test.YtnnanknljpkdeaaBase
import Derived.Test.YtnnanknljpkdeaaNum
import Derived.Test.YtnnanknljpkdeaaInts
import Derived.Test.YtnnanknljpkdeaaApp
import Derived.Test.YtnnanknljpkdeaaIntsW
import Derived.Test.YtnnanknljpkdeaaLib
import Derived.Test.YtnnanknljpkdeaaSpares
import Derived.Test.YtnnanknljpkdeaaOwn
import Derived.Test.YtnnanknljpkdeaaPage
import Derived.Test.YtnnanknljpkdeaaFlash
import Derived.Test.YtnnanknljpkdeaaFlashM
import Derived.Test.YtnnanknljpkdeaaFlashC
import Derived.Test.YtnnanknljpkdeaaFlashD
import Derived.Test.YtnnanknljpkdeaaFlashV
import Derived.Test.YtnnanknljpkdeaaThinC
import Derived.Test.YtnnanknljpkdeaaFlashW
import Derived.Test.YtnnanknljpkdeaaFlashX
import Derived.Test.YtnnanknljpkdeaaFlashY
import Derived.Test.YtnnanknljpkdeaaFlashZ
import Derived.Test.YtnnanknljpkdeaaFlashCB
namespace Go.Proofs.Ytnnanknljpkdeaa
open Go.RowKit
theorem FlashOwn.rdp {B C : Nat} {w : World} {A : Option Addr} {n c : Nat} {y1 : Value} {f : Fl} (h : FlashOwn B w C [.slice A n c, y1] f) : Rd encPageS w A f.pages := by
  obtain ⟨u, v, h1, ⟨A2, c2, g, rfl, hr, _⟩, _⟩ := h
  simp only [List.cons.injEq, and_true, Value.slice.injEq] at h1
  obtain ⟨⟨rfl, _, _⟩, _⟩ := h1
  exact hr.rd
theorem writeB_no {f : Fl} {x v : Int} (h : writeArgs f x v = false) : writeB f x v = ⟨[], []⟩ := by unfold writeB; rw [h]; rfl
theorem writeB_yes {f : Fl} {x v : Int} (h : writeArgs f x v = true) : writeB f x v = ⟨put1 (dropL (roomF f).pages x) ⟨x, v⟩, (roomF f).erases⟩ := by unfold writeB; rw [h]; rfl
theorem writeArgs_1 {f : Fl} {x v : Int} (h : flashB f = false) : writeArgs f x v = false := by unfold writeArgs; rw [h]; rfl
theorem writeArgs_2 {f : Fl} {x v : Int} (h : inB x 0 (((f.erases.length : Int) - 1) * 4 - 1) = false) : writeArgs f x v = false := by unfold writeArgs; rw [h]; simp
theorem writeArgs_3 {f : Fl} {x v : Int} (h : inB v 0 255 = false) : writeArgs f x v = false := by unfold writeArgs; rw [h]; simp
theorem writeArgs_yes {f : Fl} {x v : Int} (h1 : flashB f = true) (h2 : inB x 0 (((f.erases.length : Int) - 1) * 4 - 1) = true) (h3 : inB v 0 255 = true) : writeArgs f x v = true := by unfold writeArgs; rw [h1, h2, h3]; rfl
theorem writeB_size (f : Fl) (x v : Int) : sizeFlash (writeB f x v) ≤ sizeFlash f := by
  cases h : writeArgs f x v
  · rw [writeB_no h]; simp [sizeFlash]
  · have h1 : flashB f = true := by
      cases h1 : flashB f
      · rw [writeArgs_1 h1] at h; cases h
      · rfl
    have h2 : inB x 0 (((f.erases.length : Int) - 1) * 4 - 1) = true := by
      cases h2 : inB x 0 (((f.erases.length : Int) - 1) * 4 - 1)
      · rw [writeArgs_2 h2] at h; cases h
      · rfl
    have ok := flashB_iff.1 h1
    have := writeF_spec ok x v (inB_true.1 h2).1
    have e : writeB f x v = writeF f x v := by unfold writeB; rw [h]; rfl
    rw [e]; unfold sizeFlash; omega
theorem dropL_no {l : List Pg} {x : Int} (h : idx (l.map Pg.own) x < 0) : dropL l x = l := by unfold dropL; rw [if_pos h]
theorem dropL_at {l : List Pg} {x : Int} {i : Nat} (h : idx (l.map Pg.own) x = i) (hi : i < l.length) : dropL l x = l.set i ⟨-2, l[i].val⟩ := by
  unfold dropL; rw [if_neg (by omega), h]
  simp [hi]
theorem roomF_free {f : Fl} (h : freeIx f.pages < 0) : roomF f = collectF f := by unfold roomF; rw [if_pos h]
theorem roomF_none {f : Fl} (h : ¬ freeIx f.pages < 0) : roomF f = f := by unfold roomF; rw [if_neg h]
set_option maxHeartbeats 8000000 in
theorem implWrite_c (x0 x1 : Value) (f : Fl) (x v : Int) (w : World) (h : FlashRd w [x0, x1] f) (hs : sizeFlash f ≤ 1099511627776) :
    Calls Try.prog 36 #[.agg #[x0, x1], .int .i64 x, .int .i64 v] w (MadeFlash (writeB f x v) w) := by
  obtain ⟨A, c, A', c', rfl, rfl⟩ := flashRd_lens h
  have HR := Lib.hid h
  have L0 := Loc.new w [.slice A f.pages.length c, .slice A' f.erases.length c'] 30
  have L1 := Loc.newAt (w.alloc (.cells #[.slice A f.pages.length c, .slice A' f.erases.length c'] 30)) [.slice none 0 0, .slice none 0 0] 30 (b := w.heap.size + 1) (by simp)
  obtain ⟨k0, k1, kf⟩ := Loc.two (Loc.alloc L0 (.cells #[.slice none 0 0, .slice none 0 0] 30))
  cases hv : flashB f
  · have HV := Lib.hid hv
    have HC := Lib.hid (writeB_no (x := x) (v := v) (writeArgs_1 hv))
    clear hv
    go_enter Try.func36, Try.ntmps36
    go_wp2_with fail
    refine (implFlash_c _ _ f _ (FlashRd.below HR.out (by repeat (first | with_reducible exact Below.refl _ _ | with_reducible refine below_drewN ?_ _ | with_reducible refine Below.drew ?_ | with_reducible refine Below.alloc ?_ ?_ _ | with_reducible refine Below.setCell ?_ ?_ _ | omega | (focus (simp; omega)) | (focus (simp; done))))) hs).mono ?_
    rw [HV.out]
    rintro e w1 ⟨rfl, hb1⟩
    have M1 := Loc.carryB L1 (fun h => by ((repeat (first | with_reducible exact h | with_reducible refine Loc.drew ?_ | with_reducible refine Loc.drewN ?_ _ | with_reducible refine Loc.alloc ?_ _)); done)) hb1
    obtain ⟨m0, m1, mf⟩ := M1.two
    go_wp2
    refine bodyPost_ret (v := .agg #[.slice none 0 0, .slice none 0 0]) (by simp [results, Try.results36, go_sem, *]; done) rfl ⟨_, _, rfl, ?_, ?_⟩
    · rw [HC.out]; exact flashOwn_nil0 _ _ _
    · exact (by repeat (first | with_reducible exact Below.refl _ _ | with_reducible assumption | with_reducible refine below_drewN ?_ _ | with_reducible refine Below.drew ?_ | with_reducible refine Below.alloc ?_ ?_ _ | with_reducible refine Below.setCell ?_ ?_ _ | (with_reducible refine Below.next ?_ (by assumption)) | omega | (focus (simp; omega)) | (focus (simp; done))))
  · have HV := Lib.hid hv
    have ok := Lib.hid (flashB_iff.1 hv)
    have n2 := ok.out.n2
    have n6 := ok.out.n6
    have hp24 : f.pages.length ≤ 24 := by rw [ok.out.len]; omega
    go_enter Try.func36, Try.ntmps36
    go_wp2_with fail
    refine (implFlash_c _ _ f _ (FlashRd.below HR.out (by repeat (first | with_reducible exact Below.refl _ _ | with_reducible refine below_drewN ?_ _ | with_reducible refine Below.drew ?_ | with_reducible refine Below.alloc ?_ ?_ _ | with_reducible refine Below.setCell ?_ ?_ _ | omega | (focus (simp; omega)) | (focus (simp; done))))) hs).mono ?_
    rw [HV.out]
    clear hv
    rintro e w1 ⟨rfl, hb1⟩
    have M0 := Loc.carryB L0 (fun h => by ((repeat (first | with_reducible exact h | with_reducible refine Loc.drew ?_ | with_reducible refine Loc.drewN ?_ _ | with_reducible refine Loc.alloc ?_ _)); done)) hb1
    have M1 := Loc.carryB L1 (fun h => by ((repeat (first | with_reducible exact h | with_reducible refine Loc.drew ?_ | with_reducible refine Loc.drewN ?_ _ | with_reducible refine Loc.alloc ?_ _)); done)) hb1
    obtain ⟨m0, m1, mf⟩ := M0.two
    obtain ⟨l0, l1, lf⟩ := M1.two
    have W1 : Hid (Below w.heap.size w w1) := Lib.hid (Below.next (W := w) (by repeat (first | with_reducible exact Below.refl _ _ | with_reducible refine below_drewN ?_ _ | with_reducible refine Below.drew ?_ | with_reducible refine Below.alloc ?_ ?_ _ | with_reducible refine Below.setCell ?_ ?_ _ | omega | (focus (simp; omega)) | (focus (simp; done)))) hb1)
    have zM0 := M0.lt
    have zM1 := M1.lt
    clear hb1 k0 k1 kf
    cases ha : inB x 0 (((f.erases.length : Int) - 1) * 4 - 1)
    · have HC := Lib.hid (writeB_no (v := v) (writeArgs_2 ha))
      go_wp2_with (go_at_call 52; refine (within_any _ _ _ _).mono ?_; rintro e w' ⟨rfl, rfl⟩)
      refine bodyPost_ret (v := .agg #[.slice none 0 0, .slice none 0 0]) (by simp [results, Try.results36, go_sem, *]; done) rfl ⟨_, _, rfl, ?_, ?_⟩
      · rw [HC.out]; exact flashOwn_nil0 _ _ _
      · exact (by repeat (first | with_reducible exact W1.out | with_reducible exact Below.refl _ _ | with_reducible refine below_drewN ?_ _ | with_reducible refine Below.drew ?_ | with_reducible refine Below.alloc ?_ ?_ _ | with_reducible refine Below.setCell ?_ ?_ _ | (with_reducible refine Below.next ?_ (by assumption)) | ((with_reducible refine Below.far' (by assumption) ?_ ?_ ?_); (focus (first | omega | (simp; omega) | (simp; done))); (focus (first | omega | (simp; omega) | (simp; done)))) | omega | (focus (simp; omega)) | (focus (simp; done))))
    · cases hb : inB v 0 255
      · have HC := Lib.hid (writeB_no (f := f) (x := x) (writeArgs_3 hb))
        go_wp2_with (go_at_call 52; refine (within_any _ _ _ _).mono ?_; rintro e w' ⟨rfl, rfl⟩)
        refine bodyPost_ret (v := .agg #[.slice none 0 0, .slice none 0 0]) (by simp [results, Try.results36, go_sem, *]; done) rfl ⟨_, _, rfl, ?_, ?_⟩
        · rw [HC.out]; exact flashOwn_nil0 _ _ _
        · exact (by repeat (first | with_reducible exact W1.out | with_reducible exact Below.refl _ _ | with_reducible refine below_drewN ?_ _ | with_reducible refine Below.drew ?_ | with_reducible refine Below.alloc ?_ ?_ _ | with_reducible refine Below.setCell ?_ ?_ _ | (with_reducible refine Below.next ?_ (by assumption)) | ((with_reducible refine Below.far' (by assumption) ?_ ?_ ?_); (focus (first | omega | (simp; omega) | (simp; done))); (focus (first | omega | (simp; omega) | (simp; done)))) | omega | (focus (simp; omega)) | (focus (simp; done))))
      · have HWA := Lib.hid (writeB_yes (writeArgs_yes HV.out ha hb))
        obtain ⟨x0, xhi⟩ := inB_true.1 ha
        have HROOM0 := Lib.hid ok.out.room
        have HLIVE0 : Hid (LiveOk (roomF f).pages) := Lib.hid (ok.out.one.perm (roomF_live ok.out).1.symm)
        go_wp2_with fail
        refine (within_any _ _ _ _).mono ?_
        rw [ha]
        rintro e w' ⟨rfl, rfl⟩
        go_wp2_with fail
        refine (within_any _ _ _ _).mono ?_
        rw [hb]
        rintro e w' ⟨rfl, rfl⟩
        clear ha hb
        go_wp2_with fail
        refine (cloneFlash_c _ _ f _ (FlashRd.below HR.out W1.out) hs).mono ?_
        rintro e w2 ⟨y0, y1, rfl, O2, hb2⟩
        obtain ⟨A1, c1, A2, c2, rfl, rfl⟩ := flashRd_lens O2.rd
        have N0 := Loc.carryB M0 (fun h => by ((repeat (first | with_reducible exact h | with_reducible refine Loc.drew ?_ | with_reducible refine Loc.drewN ?_ _ | with_reducible refine Loc.alloc ?_ _)); done)) hb2
        have LR := Loc.carryB M1 (fun h => by ((repeat (first | with_reducible exact h | with_reducible refine Loc.drew ?_ | with_reducible refine Loc.drewN ?_ _ | with_reducible refine Loc.alloc ?_ _)); done)) hb2
        have LX := Loc.newAt w2 [.slice A1 f.pages.length c1, .slice A2 f.erases.length c2] 30 (b := w2.heap.size) rfl
        have W2 : Hid (Below w.heap.size w w2) := Lib.hid (Below.next (W := w) W1.out hb2)
        have H2 := Lib.hid O2
        have hz1 := W1.out.size
        have hz2 := hb2.size
        have HRD := Lib.hid (FlashOwn.rdp O2)
        have hRB1 : w.heap.size + 1 < w1.heap.size := zM1
        clear hb2 O2 m0 m1 mf l0 l1 lf zM0 zM1
        have zR2 := LR.lt
        have hBw : w.heap.size ≤ w1.heap.size := hz1
        go_wp2_with fail
        refine (pageOf_any _ f.pages.length c1 f.pages (-1) _ rfl (by repeat (first | with_reducible exact HRD.out | with_reducible refine Rd.drew ?_ | with_reducible refine Rd.drewN ?_ _ | with_reducible refine Rd.alloc ?_ _ | (with_reducible refine Rd.below ?_ (by assumption)))) (by omega)).mono ?_
        by_cases hfx : freeIx f.pages < 0
        · have hrf := Lib.hid (roomF_free hfx)
          have HFX : Hid (idx (f.pages.map Pg.own) (-1) = freeIx f.pages) := Lib.hid rfl
          rw [HFX.out]
          rintro e w3 ⟨rfl, hb3⟩
          have P0 := Loc.carryB N0 (fun h => by ((repeat (first | with_reducible exact h | with_reducible refine Loc.drew ?_ | with_reducible refine Loc.drewN ?_ _ | with_reducible refine Loc.alloc ?_ _)); done)) hb3
          replace LR := Loc.carryB LR (fun h => by ((repeat (first | with_reducible exact h | with_reducible refine Loc.drew ?_ | with_reducible refine Loc.drewN ?_ _ | with_reducible refine Loc.alloc ?_ _)); done)) hb3
          replace LX := Loc.carryB LX (fun h => by ((repeat (first | with_reducible exact h | with_reducible refine Loc.drew ?_ | with_reducible refine Loc.drewN ?_ _ | with_reducible refine Loc.alloc ?_ _)); done)) hb3
          obtain ⟨p0, p1, pf⟩ := P0.two
          obtain ⟨q0, q1, qf⟩ := LX.two
          have W3 : Hid (Below w.heap.size w w3) := Lib.hid (Below.next (W := w) (by repeat (first | with_reducible exact W2.out | with_reducible exact Below.refl _ _ | with_reducible refine below_drewN ?_ _ | with_reducible refine Below.drew ?_ | with_reducible refine Below.alloc ?_ ?_ _ | with_reducible refine Below.setCell ?_ ?_ _ | (with_reducible refine Below.next ?_ (by assumption)) | ((with_reducible refine Below.far' (by assumption) ?_ ?_ ?_); (focus (first | omega | (simp; omega) | (simp; done))); (focus (first | omega | (simp; omega) | (simp; done)))) | omega | (focus (simp; omega)) | (focus (simp; done)))) hb3)
          have zX3 := LX.lt
          have zR3 := LR.lt
          clear hb3 zR2
          go_wp2_with fail
          refine (collected_c _ _ f _ (FlashRd.below HR.out W3.out) hs ok.out (fun x hx => (ok.out.ers x hx).2)).mono ?_
          rw [← hrf.out]
          have hFl : (roomF f).pages.length ≤ 24 := by rw [(roomF_live ok.out).2.1]; exact hp24
          obtain ⟨F, hF⟩ : ∃ F, F = roomF f := ⟨_, rfl⟩
          have HROOM := HROOM0
          have HLIVE := HLIVE0
          have HW := HWA
          rw [← hF] at HROOM HLIVE HW hFl ⊢
          clear hF hfx HRD
          rintro e w4 ⟨y0, y1, rfl, O4, hb4⟩
          obtain ⟨A1, c1, A2, c2, rfl, rfl⟩ := flashRd_lens O4.rd
          replace LR := Loc.carryB LR (fun h => by ((repeat (first | with_reducible exact h | with_reducible refine Loc.drew ?_ | with_reducible refine Loc.drewN ?_ _ | with_reducible refine Loc.alloc ?_ _)); done)) hb4
          replace LX := Loc.carryB LX (fun h => by ((repeat (first | with_reducible exact h | with_reducible refine Loc.drew ?_ | with_reducible refine Loc.drewN ?_ _ | with_reducible refine Loc.alloc ?_ _)); done)) hb4
          obtain ⟨q0, q1, qf⟩ := LX.two
          have W4 : Hid (Below w.heap.size w w4) := Lib.hid (Below.next (W := w) W3.out hb4)
          have hz3 := W3.out.size
          have hz4 := hb4.size
          have zX4 := LX.lt
          have zR4 := LR.lt
          obtain ⟨B, hB⟩ : ∃ B, B = w3.heap.size := ⟨_, rfl⟩
          obtain ⟨C, hC⟩ : ∃ C, C = w4.heap.size := ⟨_, rfl⟩
          obtain ⟨X, hX⟩ : ∃ X, X = w2.heap.size := ⟨_, rfl⟩
          have HO4 := Lib.hid O4
          rw [← hB, ← hC] at HO4
          rw [← hX] at LX q0 q1 qf ⊢
          have hXB : X < B := by omega
          have hBw : w.heap.size ≤ B := by omega
          have hRB : w.heap.size + 1 < B := by omega
          have hCz : C ≤ w4.heap.size := by omega
          have hXz : X < w4.heap.size := by omega
          have hXR : X ≠ w.heap.size + 1 := by omega
          clear hb4 O4 H2 N0 W2 P0 p0 p1 pf
          replace LX := Loc.fill2 LX (.slice A1 F.pages.length c1) (.slice A2 F.erases.length c2)
          replace LR := Loc.other' (p := ⟨X, 1, none⟩) (by simp; omega) (Loc.other' (p := ⟨X, 0, none⟩) (by simp; omega) LR (.slice A1 F.pages.length c1)) (.slice A2 F.erases.length c2)
          have HO : Hid (FlashOwn B ((w4.setCell ⟨X, 0, none⟩ (.slice A1 F.pages.length c1)).setCell ⟨X, 1, none⟩ (.slice A2 F.erases.length c2)) C [.slice A1 F.pages.length c1, .slice A2 F.erases.length c2] F) := Lib.hid (by repeat (first | with_reducible exact HO4.out | with_reducible refine FlashOwn.drew ?_ | with_reducible refine FlashOwn.drewN ?_ _ | with_reducible refine FlashOwn.alloc ?_ _ | (with_reducible refine FlashOwn.below ?_ (by assumption)) | ((with_reducible refine FlashOwn.other ?_ ?_ _); rotate_left; (focus (first | omega | (simp; omega) | (simp; done))))))
          have WZ : Hid (Below w.heap.size w ((w4.setCell ⟨X, 0, none⟩ (.slice A1 F.pages.length c1)).setCell ⟨X, 1, none⟩ (.slice A2 F.erases.length c2))) := Lib.hid ((by repeat (first | with_reducible exact W4.out | with_reducible exact Below.refl _ _ | with_reducible refine below_drewN ?_ _ | with_reducible refine Below.drew ?_ | with_reducible refine Below.alloc ?_ ?_ _ | with_reducible refine Below.setCell ?_ ?_ _ | (with_reducible refine Below.next ?_ (by assumption)) | ((with_reducible refine Below.far' (by assumption) ?_ ?_ ?_); (focus (first | omega | (simp; omega) | (simp; done))); (focus (first | omega | (simp; omega) | (simp; done)))) | omega | (focus (simp; omega)) | (focus (simp; done)))))
          clear hB hC hX
          have hds := dropL_spec F.pages x x0 HLIVE.out
          have hdl : Hid ((dropL F.pages x).length = F.pages.length) := Lib.hid hds.2.2.1
          have hfr : Hid (0 < freeN (dropL F.pages x)) := Lib.hid (by rw [hds.2.1]; exact HROOM.out)
          obtain ⟨q, hq, hql, -⟩ := freeIx_ok hfr.out
          have HQ : Hid (idx ((dropL F.pages x).map Pg.own) (-1) = (q : Int)) := Lib.hid hq
          have HPUT : Hid (put1 (dropL F.pages x) ⟨x, v⟩ = (dropL F.pages x).set q ⟨x, v⟩) := Lib.hid (by unfold put1; rw [hq]; rfl)
          have hql' : q < F.pages.length := by rw [← hdl.out]; exact hql
          clear hds hq
          obtain ⟨xx0, xx1, xxf⟩ := LX.two
          obtain ⟨rr0, rr1, rrf⟩ := LR.two
          have zX := LX.lt
          have zR := LR.lt
          have HRDZ := Lib.hid (FlashOwn.rdp HO.out)
          have hlt24 : F.pages.length ≤ 1099511627776 := by omega
          go_wp2_with fail
          refine (pageOf_any _ F.pages.length c1 F.pages x _ rfl (by repeat (first | with_reducible exact HRDZ.out | with_reducible refine Rd.drew ?_ | with_reducible refine Rd.drewN ?_ _ | with_reducible refine Rd.alloc ?_ _ | (with_reducible refine Rd.below ?_ (by assumption)))) hlt24).mono ?_
          have hixl := idx_le (F.pages.map Pg.own) x
          rw [List.length_map] at hixl
          by_cases hix : idx (F.pages.map Pg.own) x < 0
          · have hdn := Lib.hid (dropL_no hix)
            obtain ⟨ix, hixe⟩ : ∃ ix, ix = idx (F.pages.map Pg.own) x := ⟨_, rfl⟩
            rw [← hixe] at hix ⊢
            have hixd : decide (0 ≤ ix) = false := by simpa using hix
            clear hixe hixl
            rintro e wy ⟨rfl, hby⟩
            replace LX := Loc.carryB LX (fun h => by ((repeat (first | with_reducible exact h | with_reducible refine Loc.drew ?_ | with_reducible refine Loc.drewN ?_ _ | with_reducible refine Loc.alloc ?_ _)); done)) hby
            replace LR := Loc.carryB LR (fun h => by ((repeat (first | with_reducible exact h | with_reducible refine Loc.drew ?_ | with_reducible refine Loc.drewN ?_ _ | with_reducible refine Loc.alloc ?_ _)); done)) hby
            replace WZ := Lib.hid (Below.next (W := w) (by repeat (first | with_reducible exact WZ.out | with_reducible exact Below.refl _ _ | with_reducible refine below_drewN ?_ _ | with_reducible refine Below.drew ?_ | with_reducible refine Below.alloc ?_ ?_ _ | with_reducible refine Below.setCell ?_ ?_ _ | (with_reducible refine Below.next ?_ (by assumption)) | ((with_reducible refine Below.far' (by assumption) ?_ ?_ ?_); (focus (first | omega | (simp; omega) | (simp; done))); (focus (first | omega | (simp; omega) | (simp; done)))) | omega | (focus (simp; omega)) | (focus (simp; done)))) hby)
            have HO2 : Hid (FlashOwn B wy C _ ⟨dropL F.pages x, F.erases⟩) := Lib.hid (by rw [hdn.out]; exact FlashOwn.below HO.out (Below.next (by repeat (first | with_reducible exact Below.refl _ _ | with_reducible refine below_drewN ?_ _ | with_reducible refine Below.drew ?_ | with_reducible refine Below.alloc ?_ ?_ _ | with_reducible refine Below.setCell ?_ ?_ _ | omega | (focus (simp; omega)) | (focus (simp; done)))) hby))
            have hzy := hby.size
            (try simp at hzy)
            clear xx0 xx1 xxf rr0 rr1 rrf hby
            obtain ⟨xx0, xx1, xxf⟩ := LX.two
            obtain ⟨rr0, rr1, rrf⟩ := LR.two
            have zX2 := LX.lt
            have zR2 := LR.lt
            have HRD2 := Lib.hid (FlashOwn.rdp HO2.out)
            go_wp2_with fail
            refine (pageOf_any _ F.pages.length c1 (dropL F.pages x) (-1) _ hdl.out (by repeat (first | with_reducible exact HRD2.out | with_reducible refine Rd.drew ?_ | with_reducible refine Rd.drewN ?_ _ | with_reducible refine Rd.alloc ?_ _ | (with_reducible refine Rd.below ?_ (by assumption)))) (by omega)).mono ?_
            rw [HQ.out]
            rintro e wu ⟨rfl, hbu⟩
            replace LX := Loc.carryB LX (fun h => by ((repeat (first | with_reducible exact h | with_reducible refine Loc.drew ?_ | with_reducible refine Loc.drewN ?_ _ | with_reducible refine Loc.alloc ?_ _)); done)) hbu
            replace LR := Loc.carryB LR (fun h => by ((repeat (first | with_reducible exact h | with_reducible refine Loc.drew ?_ | with_reducible refine Loc.drewN ?_ _ | with_reducible refine Loc.alloc ?_ _)); done)) hbu
            obtain ⟨x0', x1', xf'⟩ := LX.two
            obtain ⟨r0', r1', rf'⟩ := LR.two
            have zX' := LX.lt
            have zR' := LR.lt
            have BU : Hid (Below w.heap.size w wu) := Lib.hid (Below.next (W := w) (by repeat (first | with_reducible exact WZ.out | with_reducible exact Below.refl _ _ | with_reducible refine below_drewN ?_ _ | with_reducible refine Below.drew ?_ | with_reducible refine Below.alloc ?_ ?_ _ | with_reducible refine Below.setCell ?_ ?_ _ | (with_reducible refine Below.next ?_ (by assumption)) | ((with_reducible refine Below.far' (by assumption) ?_ ?_ ?_); (focus (first | omega | (simp; omega) | (simp; done))); (focus (first | omega | (simp; omega) | (simp; done)))) | omega | (focus (simp; omega)) | (focus (simp; done)))) hbu)
            have OU := FlashOwn.below HO2.out (Below.next (by repeat (first | with_reducible exact Below.refl _ _ | with_reducible refine below_drewN ?_ _ | with_reducible refine Below.drew ?_ | with_reducible refine Below.alloc ?_ ?_ _ | with_reducible refine Below.setCell ?_ ?_ _ | omega | (focus (simp; omega)) | (focus (simp; done)))) hbu)
            obtain ⟨gq, hgq, hgq1, hgq2, hgq3, -, hgq4, hfzq, hcq1, hcq2, hsetq, -⟩ := OU.page (k := q) hql
            cases hgq
            have HS := Lib.hid (hsetq ⟨x, v⟩)
            have hzu := hbu.size
            (try simp at hzu)
            clear hsetq OU hbu
            go_wp2
            refine bodyPost_ret (v := .agg #[.slice (some ⟨gq, 0, none⟩) F.pages.length c1, .slice A2 F.erases.length c2]) (by simp [results, Try.results36, go_sem, *]; done) rfl ⟨_, _, rfl, ?_, ?_⟩
            · rw [HW.out, HPUT.out]
              exact FlashOwn.mono (B := B) (C := C) (by repeat (first | with_reducible exact HS.out | with_reducible refine FlashOwn.drew ?_ | with_reducible refine FlashOwn.drewN ?_ _ | with_reducible refine FlashOwn.alloc ?_ _ | (with_reducible refine FlashOwn.below ?_ (by assumption)) | ((with_reducible refine FlashOwn.other ?_ ?_ _); rotate_left; (focus (first | omega | (simp; omega) | (simp; done)))))) hBw (by simp; omega)
            · exact (by repeat (first | with_reducible exact BU.out | with_reducible exact Below.refl _ _ | with_reducible refine below_drewN ?_ _ | with_reducible refine Below.drew ?_ | with_reducible refine Below.alloc ?_ ?_ _ | with_reducible refine Below.setCell ?_ ?_ _ | (with_reducible refine Below.next ?_ (by assumption)) | ((with_reducible refine Below.far' (by assumption) ?_ ?_ ?_); (focus (first | omega | (simp; omega) | (simp; done))); (focus (first | omega | (simp; omega) | (simp; done)))) | omega | (focus (simp; omega)) | (focus (simp; done))))
          · obtain ⟨i, hi, hil, hio, -⟩ := idx_get (Int.not_lt.1 hix)
            rw [List.length_map] at hil
            have hda := Lib.hid (dropL_at hi hil)
            rw [hi]
            clear hix hixl hio
            rintro e wy ⟨rfl, hby⟩
            replace LX := Loc.carryB LX (fun h => by ((repeat (first | with_reducible exact h | with_reducible refine Loc.drew ?_ | with_reducible refine Loc.drewN ?_ _ | with_reducible refine Loc.alloc ?_ _)); done)) hby
            replace LR := Loc.carryB LR (fun h => by ((repeat (first | with_reducible exact h | with_reducible refine Loc.drew ?_ | with_reducible refine Loc.drewN ?_ _ | with_reducible refine Loc.alloc ?_ _)); done)) hby
            replace WZ := Lib.hid (Below.next (W := w) (by repeat (first | with_reducible exact WZ.out | with_reducible exact Below.refl _ _ | with_reducible refine below_drewN ?_ _ | with_reducible refine Below.drew ?_ | with_reducible refine Below.alloc ?_ ?_ _ | with_reducible refine Below.setCell ?_ ?_ _ | (with_reducible refine Below.next ?_ (by assumption)) | ((with_reducible refine Below.far' (by assumption) ?_ ?_ ?_); (focus (first | omega | (simp; omega) | (simp; done))); (focus (first | omega | (simp; omega) | (simp; done)))) | omega | (focus (simp; omega)) | (focus (simp; done)))) hby)
            have OY := FlashOwn.below HO.out (Below.next (by repeat (first | with_reducible exact Below.refl _ _ | with_reducible refine below_drewN ?_ _ | with_reducible refine Below.drew ?_ | with_reducible refine Below.alloc ?_ ?_ _ | with_reducible refine Below.setCell ?_ ?_ _ | omega | (focus (simp; omega)) | (focus (simp; done)))) hby)
            obtain ⟨gi, hgi, hgi1, hgi2, hgi3, -, hgi4, hfzi, hci1, hci2, -, hseti⟩ := OY.page (k := i) hil
            obtain rfl := hgi
            have HS1 := Lib.hid (hseti (-2))
            have HO2 : Hid (FlashOwn B (wy.setCell ⟨gi, i * 2, none⟩ (.int .i64 (-2))) C _ ⟨dropL F.pages x, F.erases⟩) := Lib.hid (by rw [hda.out]; exact HS1.out)
            have hzy := hby.size
            (try simp at hzy)
            clear xx0 xx1 xxf rr0 rr1 rrf hby OY hseti HS1
            obtain ⟨xx0, xx1, xxf⟩ := LX.two
            obtain ⟨rr0, rr1, rrf⟩ := LR.two
            have zX2 := LX.lt
            have zR2 := LR.lt
            replace LX := Loc.other' (p := ⟨gi, i * 2, none⟩) (by simp; omega) LX (.int .i64 (-2))
            replace LR := Loc.other' (p := ⟨gi, i * 2, none⟩) (by simp; omega) LR (.int .i64 (-2))
            replace WZ := Lib.hid (Below.setCell (p := ⟨gi, i * 2, none⟩) WZ.out (by simp; omega) (.int .i64 (-2)))
            have HRD2 := Lib.hid (FlashOwn.rdp HO2.out)
            go_wp2_with fail
            refine (pageOf_any _ F.pages.length c1 (dropL F.pages x) (-1) _ hdl.out (by repeat (first | with_reducible exact HRD2.out | with_reducible refine Rd.drew ?_ | with_reducible refine Rd.drewN ?_ _ | with_reducible refine Rd.alloc ?_ _ | (with_reducible refine Rd.below ?_ (by assumption)))) (by omega)).mono ?_
            rw [HQ.out]
            rintro e wu ⟨rfl, hbu⟩
            replace LX := Loc.carryB LX (fun h => by ((repeat (first | with_reducible exact h | with_reducible refine Loc.drew ?_ | with_reducible refine Loc.drewN ?_ _ | with_reducible refine Loc.alloc ?_ _)); done)) hbu
            replace LR := Loc.carryB LR (fun h => by ((repeat (first | with_reducible exact h | with_reducible refine Loc.drew ?_ | with_reducible refine Loc.drewN ?_ _ | with_reducible refine Loc.alloc ?_ _)); done)) hbu
            obtain ⟨x0', x1', xf'⟩ := LX.two
            obtain ⟨r0', r1', rf'⟩ := LR.two
            have zX' := LX.lt
            have zR' := LR.lt
            have BU : Hid (Below w.heap.size w wu) := Lib.hid (Below.next (W := w) (by repeat (first | with_reducible exact WZ.out | with_reducible exact Below.refl _ _ | with_reducible refine below_drewN ?_ _ | with_reducible refine Below.drew ?_ | with_reducible refine Below.alloc ?_ ?_ _ | with_reducible refine Below.setCell ?_ ?_ _ | (with_reducible refine Below.next ?_ (by assumption)) | ((with_reducible refine Below.far' (by assumption) ?_ ?_ ?_); (focus (first | omega | (simp; omega) | (simp; done))); (focus (first | omega | (simp; omega) | (simp; done)))) | omega | (focus (simp; omega)) | (focus (simp; done)))) hbu)
            have OU := FlashOwn.below HO2.out (Below.next (by repeat (first | with_reducible exact Below.refl _ _ | with_reducible refine below_drewN ?_ _ | with_reducible refine Below.drew ?_ | with_reducible refine Below.alloc ?_ ?_ _ | with_reducible refine Below.setCell ?_ ?_ _ | omega | (focus (simp; omega)) | (focus (simp; done)))) hbu)
            obtain ⟨gq, hgq, hgq1, hgq2, hgq3, -, hgq4, hfzq, hcq1, hcq2, hsetq, -⟩ := OU.page (k := q) hql
            cases hgq
            have HS := Lib.hid (hsetq ⟨x, v⟩)
            have hzu := hbu.size
            (try simp at hzu)
            clear hsetq OU hbu
            go_wp2
            refine bodyPost_ret (v := .agg #[.slice (some ⟨gi, 0, none⟩) F.pages.length c1, .slice A2 F.erases.length c2]) (by simp [results, Try.results36, go_sem, *]; done) rfl ⟨_, _, rfl, ?_, ?_⟩
            · rw [HW.out, HPUT.out]
              exact FlashOwn.mono (B := B) (C := C) (by repeat (first | with_reducible exact HS.out | with_reducible refine FlashOwn.drew ?_ | with_reducible refine FlashOwn.drewN ?_ _ | with_reducible refine FlashOwn.alloc ?_ _ | (with_reducible refine FlashOwn.below ?_ (by assumption)) | ((with_reducible refine FlashOwn.other ?_ ?_ _); rotate_left; (focus (first | omega | (simp; omega) | (simp; done)))))) hBw (by simp; omega)
            · exact (by repeat (first | with_reducible exact BU.out | with_reducible exact Below.refl _ _ | with_reducible refine below_drewN ?_ _ | with_reducible refine Below.drew ?_ | with_reducible refine Below.alloc ?_ ?_ _ | with_reducible refine Below.setCell ?_ ?_ _ | (with_reducible refine Below.next ?_ (by assumption)) | ((with_reducible refine Below.far' (by assumption) ?_ ?_ ?_); (focus (first | omega | (simp; omega) | (simp; done))); (focus (first | omega | (simp; omega) | (simp; done)))) | omega | (focus (simp; omega)) | (focus (simp; done))))
        · have hrf := Lib.hid (roomF_none hfx)
          have hfi : Hid (idx (f.pages.map Pg.own) (-1) = freeIx f.pages) := Lib.hid rfl
          rw [hfi.out]
          obtain ⟨fx, hfxe⟩ : ∃ fx, fx = freeIx f.pages := ⟨_, rfl⟩
          rw [← hfxe] at hfx ⊢
          clear hfxe
          rintro e wz ⟨rfl, hbz⟩
          replace LR := Loc.carryB LR (fun h => by ((repeat (first | with_reducible exact h | with_reducible refine Loc.drew ?_ | with_reducible refine Loc.drewN ?_ _ | with_reducible refine Loc.alloc ?_ _)); done)) hbz
          replace LX := Loc.carryB LX (fun h => by ((repeat (first | with_reducible exact h | with_reducible refine Loc.drew ?_ | with_reducible refine Loc.drewN ?_ _ | with_reducible refine Loc.alloc ?_ _)); done)) hbz
          have WZ : Hid (Below w.heap.size w wz) := Lib.hid (Below.next (W := w) (by repeat (first | with_reducible exact W2.out | with_reducible exact Below.refl _ _ | with_reducible refine below_drewN ?_ _ | with_reducible refine Below.drew ?_ | with_reducible refine Below.alloc ?_ ?_ _ | with_reducible refine Below.setCell ?_ ?_ _ | (with_reducible refine Below.next ?_ (by assumption)) | ((with_reducible refine Below.far' (by assumption) ?_ ?_ ?_); (focus (first | omega | (simp; omega) | (simp; done))); (focus (first | omega | (simp; omega) | (simp; done)))) | omega | (focus (simp; omega)) | (focus (simp; done)))) hbz)
          have HO := Lib.hid (FlashOwn.below H2.out (Below.next (by repeat (first | with_reducible exact Below.refl _ _ | with_reducible refine below_drewN ?_ _ | with_reducible refine Below.drew ?_ | with_reducible refine Below.alloc ?_ ?_ _ | with_reducible refine Below.setCell ?_ ?_ _ | omega | (focus (simp; omega)) | (focus (simp; done)))) hbz))
          have hzz := hbz.size
          simp at hzz
          have HROOM := HROOM0
          rw [hrf.out] at HROOM
          have HLIVE := HLIVE0
          rw [hrf.out] at HLIVE
          have HW := HWA
          rw [hrf.out] at HW
          obtain ⟨B, hB⟩ : ∃ B, B = w1.heap.size := ⟨_, rfl⟩
          obtain ⟨C, hC⟩ : ∃ C, C = w2.heap.size := ⟨_, rfl⟩
          obtain ⟨X, hX⟩ : ∃ X, X = w2.heap.size := ⟨_, rfl⟩
          rw [← hB, ← hC] at HO
          rw [← hX] at LX ⊢
          have hXC : C ≤ X := by omega
          have hBw : w.heap.size ≤ B := by omega
          have hRB : w.heap.size + 1 < B := by omega
          have hCz : C ≤ wz.heap.size := by omega
          have hXz : X < wz.heap.size := by omega
          clear hB hC hX hbz H2 HRD N0 zR2 W2
          have hds := dropL_spec f.pages x x0 HLIVE.out
          have hdl : Hid ((dropL f.pages x).length = f.pages.length) := Lib.hid hds.2.2.1
          have hfr : Hid (0 < freeN (dropL f.pages x)) := Lib.hid (by rw [hds.2.1]; exact HROOM.out)
          obtain ⟨q, hq, hql, -⟩ := freeIx_ok hfr.out
          have HQ : Hid (idx ((dropL f.pages x).map Pg.own) (-1) = (q : Int)) := Lib.hid hq
          have HPUT : Hid (put1 (dropL f.pages x) ⟨x, v⟩ = (dropL f.pages x).set q ⟨x, v⟩) := Lib.hid (by unfold put1; rw [hq]; rfl)
          have hql' : q < f.pages.length := by rw [← hdl.out]; exact hql
          clear hds hq
          obtain ⟨xx0, xx1, xxf⟩ := LX.two
          obtain ⟨rr0, rr1, rrf⟩ := LR.two
          have zX := LX.lt
          have zR := LR.lt
          have HRDZ := Lib.hid (FlashOwn.rdp HO.out)
          have hlt24 : f.pages.length ≤ 1099511627776 := by omega
          go_wp2_with fail
          refine (pageOf_any _ f.pages.length c1 f.pages x _ rfl (by repeat (first | with_reducible exact HRDZ.out | with_reducible refine Rd.drew ?_ | with_reducible refine Rd.drewN ?_ _ | with_reducible refine Rd.alloc ?_ _ | (with_reducible refine Rd.below ?_ (by assumption)))) hlt24).mono ?_
          have hixl := idx_le (f.pages.map Pg.own) x
          rw [List.length_map] at hixl
          by_cases hix : idx (f.pages.map Pg.own) x < 0
          · have hdn := Lib.hid (dropL_no hix)
            obtain ⟨ix, hixe⟩ : ∃ ix, ix = idx (f.pages.map Pg.own) x := ⟨_, rfl⟩
            rw [← hixe] at hix ⊢
            have hixd : decide (0 ≤ ix) = false := by simpa using hix
            clear hixe hixl
            rintro e wy ⟨rfl, hby⟩
            replace LX := Loc.carryB LX (fun h => by ((repeat (first | with_reducible exact h | with_reducible refine Loc.drew ?_ | with_reducible refine Loc.drewN ?_ _ | with_reducible refine Loc.alloc ?_ _)); done)) hby
            replace LR := Loc.carryB LR (fun h => by ((repeat (first | with_reducible exact h | with_reducible refine Loc.drew ?_ | with_reducible refine Loc.drewN ?_ _ | with_reducible refine Loc.alloc ?_ _)); done)) hby
            replace WZ := Lib.hid (Below.next (W := w) (by repeat (first | with_reducible exact WZ.out | with_reducible exact Below.refl _ _ | with_reducible refine below_drewN ?_ _ | with_reducible refine Below.drew ?_ | with_reducible refine Below.alloc ?_ ?_ _ | with_reducible refine Below.setCell ?_ ?_ _ | (with_reducible refine Below.next ?_ (by assumption)) | ((with_reducible refine Below.far' (by assumption) ?_ ?_ ?_); (focus (first | omega | (simp; omega) | (simp; done))); (focus (first | omega | (simp; omega) | (simp; done)))) | omega | (focus (simp; omega)) | (focus (simp; done)))) hby)
            have HO2 : Hid (FlashOwn B wy C _ ⟨dropL f.pages x, f.erases⟩) := Lib.hid (by rw [hdn.out]; exact FlashOwn.below HO.out (Below.next (by repeat (first | with_reducible exact Below.refl _ _ | with_reducible refine below_drewN ?_ _ | with_reducible refine Below.drew ?_ | with_reducible refine Below.alloc ?_ ?_ _ | with_reducible refine Below.setCell ?_ ?_ _ | omega | (focus (simp; omega)) | (focus (simp; done)))) hby))
            have hzy := hby.size
            (try simp at hzy)
            clear xx0 xx1 xxf rr0 rr1 rrf hby
            obtain ⟨xx0, xx1, xxf⟩ := LX.two
            obtain ⟨rr0, rr1, rrf⟩ := LR.two
            have zX2 := LX.lt
            have zR2 := LR.lt
            have HRD2 := Lib.hid (FlashOwn.rdp HO2.out)
            go_wp2_with fail
            refine (pageOf_any _ f.pages.length c1 (dropL f.pages x) (-1) _ hdl.out (by repeat (first | with_reducible exact HRD2.out | with_reducible refine Rd.drew ?_ | with_reducible refine Rd.drewN ?_ _ | with_reducible refine Rd.alloc ?_ _ | (with_reducible refine Rd.below ?_ (by assumption)))) (by omega)).mono ?_
            rw [HQ.out]
            rintro e wu ⟨rfl, hbu⟩
            replace LX := Loc.carryB LX (fun h => by ((repeat (first | with_reducible exact h | with_reducible refine Loc.drew ?_ | with_reducible refine Loc.drewN ?_ _ | with_reducible refine Loc.alloc ?_ _)); done)) hbu
            replace LR := Loc.carryB LR (fun h => by ((repeat (first | with_reducible exact h | with_reducible refine Loc.drew ?_ | with_reducible refine Loc.drewN ?_ _ | with_reducible refine Loc.alloc ?_ _)); done)) hbu
            obtain ⟨x0', x1', xf'⟩ := LX.two
            obtain ⟨r0', r1', rf'⟩ := LR.two
            have zX' := LX.lt
            have zR' := LR.lt
            have BU : Hid (Below w.heap.size w wu) := Lib.hid (Below.next (W := w) (by repeat (first | with_reducible exact WZ.out | with_reducible exact Below.refl _ _ | with_reducible refine below_drewN ?_ _ | with_reducible refine Below.drew ?_ | with_reducible refine Below.alloc ?_ ?_ _ | with_reducible refine Below.setCell ?_ ?_ _ | (with_reducible refine Below.next ?_ (by assumption)) | ((with_reducible refine Below.far' (by assumption) ?_ ?_ ?_); (focus (first | omega | (simp; omega) | (simp; done))); (focus (first | omega | (simp; omega) | (simp; done)))) | omega | (focus (simp; omega)) | (focus (simp; done)))) hbu)
            have OU := FlashOwn.below HO2.out (Below.next (by repeat (first | with_reducible exact Below.refl _ _ | with_reducible refine below_drewN ?_ _ | with_reducible refine Below.drew ?_ | with_reducible refine Below.alloc ?_ ?_ _ | with_reducible refine Below.setCell ?_ ?_ _ | omega | (focus (simp; omega)) | (focus (simp; done)))) hbu)
            obtain ⟨gq, hgq, hgq1, hgq2, hgq3, -, hgq4, hfzq, hcq1, hcq2, hsetq, -⟩ := OU.page (k := q) hql
            cases hgq
            have HS := Lib.hid (hsetq ⟨x, v⟩)
            have hzu := hbu.size
            (try simp at hzu)
            clear hsetq OU hbu
            go_wp2
            refine bodyPost_ret (v := .agg #[.slice (some ⟨gq, 0, none⟩) f.pages.length c1, .slice A2 f.erases.length c2]) (by simp [results, Try.results36, go_sem, *]; done) rfl ⟨_, _, rfl, ?_, ?_⟩
            · rw [HW.out, HPUT.out]
              exact FlashOwn.mono (B := B) (C := C) (by repeat (first | with_reducible exact HS.out | with_reducible refine FlashOwn.drew ?_ | with_reducible refine FlashOwn.drewN ?_ _ | with_reducible refine FlashOwn.alloc ?_ _ | (with_reducible refine FlashOwn.below ?_ (by assumption)) | ((with_reducible refine FlashOwn.other ?_ ?_ _); rotate_left; (focus (first | omega | (simp; omega) | (simp; done)))))) hBw (by simp; omega)
            · exact (by repeat (first | with_reducible exact BU.out | with_reducible exact Below.refl _ _ | with_reducible refine below_drewN ?_ _ | with_reducible refine Below.drew ?_ | with_reducible refine Below.alloc ?_ ?_ _ | with_reducible refine Below.setCell ?_ ?_ _ | (with_reducible refine Below.next ?_ (by assumption)) | ((with_reducible refine Below.far' (by assumption) ?_ ?_ ?_); (focus (first | omega | (simp; omega) | (simp; done))); (focus (first | omega | (simp; omega) | (simp; done)))) | omega | (focus (simp; omega)) | (focus (simp; done))))
          · obtain ⟨i, hi, hil, hio, -⟩ := idx_get (Int.not_lt.1 hix)
            rw [List.length_map] at hil
            have hda := Lib.hid (dropL_at hi hil)
            rw [hi]
            clear hix hixl hio
            rintro e wy ⟨rfl, hby⟩
            replace LX := Loc.carryB LX (fun h => by ((repeat (first | with_reducible exact h | with_reducible refine Loc.drew ?_ | with_reducible refine Loc.drewN ?_ _ | with_reducible refine Loc.alloc ?_ _)); done)) hby
            replace LR := Loc.carryB LR (fun h => by ((repeat (first | with_reducible exact h | with_reducible refine Loc.drew ?_ | with_reducible refine Loc.drewN ?_ _ | with_reducible refine Loc.alloc ?_ _)); done)) hby
            replace WZ := Lib.hid (Below.next (W := w) (by repeat (first | with_reducible exact WZ.out | with_reducible exact Below.refl _ _ | with_reducible refine below_drewN ?_ _ | with_reducible refine Below.drew ?_ | with_reducible refine Below.alloc ?_ ?_ _ | with_reducible refine Below.setCell ?_ ?_ _ | (with_reducible refine Below.next ?_ (by assumption)) | ((with_reducible refine Below.far' (by assumption) ?_ ?_ ?_); (focus (first | omega | (simp; omega) | (simp; done))); (focus (first | omega | (simp; omega) | (simp; done)))) | omega | (focus (simp; omega)) | (focus (simp; done)))) hby)
            have OY := FlashOwn.below HO.out (Below.next (by repeat (first | with_reducible exact Below.refl _ _ | with_reducible refine below_drewN ?_ _ | with_reducible refine Below.drew ?_ | with_reducible refine Below.alloc ?_ ?_ _ | with_reducible refine Below.setCell ?_ ?_ _ | omega | (focus (simp; omega)) | (focus (simp; done)))) hby)
            obtain ⟨gi, hgi, hgi1, hgi2, hgi3, -, hgi4, hfzi, hci1, hci2, -, hseti⟩ := OY.page (k := i) hil
            obtain rfl := hgi
            have HS1 := Lib.hid (hseti (-2))
            have HO2 : Hid (FlashOwn B (wy.setCell ⟨gi, i * 2, none⟩ (.int .i64 (-2))) C _ ⟨dropL f.pages x, f.erases⟩) := Lib.hid (by rw [hda.out]; exact HS1.out)
            have hzy := hby.size
            (try simp at hzy)
            clear xx0 xx1 xxf rr0 rr1 rrf hby OY hseti HS1
            obtain ⟨xx0, xx1, xxf⟩ := LX.two
            obtain ⟨rr0, rr1, rrf⟩ := LR.two
            have zX2 := LX.lt
            have zR2 := LR.lt
            replace LX := Loc.other' (p := ⟨gi, i * 2, none⟩) (by simp; omega) LX (.int .i64 (-2))
            replace LR := Loc.other' (p := ⟨gi, i * 2, none⟩) (by simp; omega) LR (.int .i64 (-2))
            replace WZ := Lib.hid (Below.setCell (p := ⟨gi, i * 2, none⟩) WZ.out (by simp; omega) (.int .i64 (-2)))
            have HRD2 := Lib.hid (FlashOwn.rdp HO2.out)
            go_wp2_with fail
            refine (pageOf_any _ f.pages.length c1 (dropL f.pages x) (-1) _ hdl.out (by repeat (first | with_reducible exact HRD2.out | with_reducible refine Rd.drew ?_ | with_reducible refine Rd.drewN ?_ _ | with_reducible refine Rd.alloc ?_ _ | (with_reducible refine Rd.below ?_ (by assumption)))) (by omega)).mono ?_
            rw [HQ.out]
            rintro e wu ⟨rfl, hbu⟩
            replace LX := Loc.carryB LX (fun h => by ((repeat (first | with_reducible exact h | with_reducible refine Loc.drew ?_ | with_reducible refine Loc.drewN ?_ _ | with_reducible refine Loc.alloc ?_ _)); done)) hbu
            replace LR := Loc.carryB LR (fun h => by ((repeat (first | with_reducible exact h | with_reducible refine Loc.drew ?_ | with_reducible refine Loc.drewN ?_ _ | with_reducible refine Loc.alloc ?_ _)); done)) hbu
            obtain ⟨x0', x1', xf'⟩ := LX.two
            obtain ⟨r0', r1', rf'⟩ := LR.two
            have zX' := LX.lt
            have zR' := LR.lt
            have BU : Hid (Below w.heap.size w wu) := Lib.hid (Below.next (W := w) (by repeat (first | with_reducible exact WZ.out | with_reducible exact Below.refl _ _ | with_reducible refine below_drewN ?_ _ | with_reducible refine Below.drew ?_ | with_reducible refine Below.alloc ?_ ?_ _ | with_reducible refine Below.setCell ?_ ?_ _ | (with_reducible refine Below.next ?_ (by assumption)) | ((with_reducible refine Below.far' (by assumption) ?_ ?_ ?_); (focus (first | omega | (simp; omega) | (simp; done))); (focus (first | omega | (simp; omega) | (simp; done)))) | omega | (focus (simp; omega)) | (focus (simp; done)))) hbu)
            have OU := FlashOwn.below HO2.out (Below.next (by repeat (first | with_reducible exact Below.refl _ _ | with_reducible refine below_drewN ?_ _ | with_reducible refine Below.drew ?_ | with_reducible refine Below.alloc ?_ ?_ _ | with_reducible refine Below.setCell ?_ ?_ _ | omega | (focus (simp; omega)) | (focus (simp; done)))) hbu)
            obtain ⟨gq, hgq, hgq1, hgq2, hgq3, -, hgq4, hfzq, hcq1, hcq2, hsetq, -⟩ := OU.page (k := q) hql
            cases hgq
            have HS := Lib.hid (hsetq ⟨x, v⟩)
            have hzu := hbu.size
            (try simp at hzu)
            clear hsetq OU hbu
            go_wp2
            refine bodyPost_ret (v := .agg #[.slice (some ⟨gi, 0, none⟩) f.pages.length c1, .slice A2 f.erases.length c2]) (by simp [results, Try.results36, go_sem, *]; done) rfl ⟨_, _, rfl, ?_, ?_⟩
            · rw [HW.out, HPUT.out]
              exact FlashOwn.mono (B := B) (C := C) (by repeat (first | with_reducible exact HS.out | with_reducible refine FlashOwn.drew ?_ | with_reducible refine FlashOwn.drewN ?_ _ | with_reducible refine FlashOwn.alloc ?_ _ | (with_reducible refine FlashOwn.below ?_ (by assumption)) | ((with_reducible refine FlashOwn.other ?_ ?_ _); rotate_left; (focus (first | omega | (simp; omega) | (simp; done)))))) hBw (by simp; omega)
            · exact (by repeat (first | with_reducible exact BU.out | with_reducible exact Below.refl _ _ | with_reducible refine below_drewN ?_ _ | with_reducible refine Below.drew ?_ | with_reducible refine Below.alloc ?_ ?_ _ | with_reducible refine Below.setCell ?_ ?_ _ | (with_reducible refine Below.next ?_ (by assumption)) | ((with_reducible refine Below.far' (by assumption) ?_ ?_ ?_); (focus (first | omega | (simp; omega) | (simp; done))); (focus (first | omega | (simp; omega) | (simp; done)))) | omega | (focus (simp; omega)) | (focus (simp; done))))
set_option maxHeartbeats 8000000 in
theorem specWrite_c (x0 x1 : Value) (f : Fl) (x v : Int) (w : World) (h : FlashRd w [x0, x1] f) (hs : sizeFlash f ≤ 1099511627776) :
    Calls Try.prog 44 #[.agg #[x0, x1], .int .i64 x, .int .i64 v] w (MadeFlash (writeB f x v) w) := by
  obtain ⟨A, c, A', c', rfl, rfl⟩ := flashRd_lens h
  have HR := Lib.hid h
  have L0 := Loc.new w [.slice A f.pages.length c, .slice A' f.erases.length c'] 30
  have L1 := Loc.newAt (w.alloc (.cells #[.slice A f.pages.length c, .slice A' f.erases.length c'] 30)) [.slice none 0 0, .slice none 0 0] 30 (b := w.heap.size + 1) (by simp)
  obtain ⟨k0, k1, kf⟩ := Loc.two (Loc.alloc L0 (.cells #[.slice none 0 0, .slice none 0 0] 30))
  cases hv : flashB f
  · have HV := Lib.hid hv
    have HC := Lib.hid (writeB_no (x := x) (v := v) (writeArgs_1 hv))
    clear hv
    go_enter Try.func44, Try.ntmps44
    go_wp2_with fail
    refine (specFlash_c _ _ f _ (FlashRd.below HR.out (by repeat (first | with_reducible exact Below.refl _ _ | with_reducible refine below_drewN ?_ _ | with_reducible refine Below.drew ?_ | with_reducible refine Below.alloc ?_ ?_ _ | with_reducible refine Below.setCell ?_ ?_ _ | omega | (focus (simp; omega)) | (focus (simp; done))))) hs).mono ?_
    rw [HV.out]
    rintro e w1 ⟨rfl, hb1⟩
    have M1 := Loc.carryB L1 (fun h => by ((repeat (first | with_reducible exact h | with_reducible refine Loc.drew ?_ | with_reducible refine Loc.drewN ?_ _ | with_reducible refine Loc.alloc ?_ _)); done)) hb1
    obtain ⟨m0, m1, mf⟩ := M1.two
    go_wp2
    refine bodyPost_ret (v := .agg #[.slice none 0 0, .slice none 0 0]) (by simp [results, Try.results44, go_sem, *]; done) rfl ⟨_, _, rfl, ?_, ?_⟩
    · rw [HC.out]; exact flashOwn_nil0 _ _ _
    · exact (by repeat (first | with_reducible exact Below.refl _ _ | with_reducible assumption | with_reducible refine below_drewN ?_ _ | with_reducible refine Below.drew ?_ | with_reducible refine Below.alloc ?_ ?_ _ | with_reducible refine Below.setCell ?_ ?_ _ | (with_reducible refine Below.next ?_ (by assumption)) | omega | (focus (simp; omega)) | (focus (simp; done))))
  · have HV := Lib.hid hv
    have ok := Lib.hid (flashB_iff.1 hv)
    have n2 := ok.out.n2
    have n6 := ok.out.n6
    have hp24 : f.pages.length ≤ 24 := by rw [ok.out.len]; omega
    go_enter Try.func44, Try.ntmps44
    go_wp2_with fail
    refine (specFlash_c _ _ f _ (FlashRd.below HR.out (by repeat (first | with_reducible exact Below.refl _ _ | with_reducible refine below_drewN ?_ _ | with_reducible refine Below.drew ?_ | with_reducible refine Below.alloc ?_ ?_ _ | with_reducible refine Below.setCell ?_ ?_ _ | omega | (focus (simp; omega)) | (focus (simp; done))))) hs).mono ?_
    rw [HV.out]
    clear hv
    rintro e w1 ⟨rfl, hb1⟩
    have M0 := Loc.carryB L0 (fun h => by ((repeat (first | with_reducible exact h | with_reducible refine Loc.drew ?_ | with_reducible refine Loc.drewN ?_ _ | with_reducible refine Loc.alloc ?_ _)); done)) hb1
    have M1 := Loc.carryB L1 (fun h => by ((repeat (first | with_reducible exact h | with_reducible refine Loc.drew ?_ | with_reducible refine Loc.drewN ?_ _ | with_reducible refine Loc.alloc ?_ _)); done)) hb1
    obtain ⟨m0, m1, mf⟩ := M0.two
    obtain ⟨l0, l1, lf⟩ := M1.two
    have W1 : Hid (Below w.heap.size w w1) := Lib.hid (Below.next (W := w) (by repeat (first | with_reducible exact Below.refl _ _ | with_reducible refine below_drewN ?_ _ | with_reducible refine Below.drew ?_ | with_reducible refine Below.alloc ?_ ?_ _ | with_reducible refine Below.setCell ?_ ?_ _ | omega | (focus (simp; omega)) | (focus (simp; done)))) hb1)
    have zM0 := M0.lt
    have zM1 := M1.lt
    clear hb1 k0 k1 kf
    cases ha : inB x 0 (((f.erases.length : Int) - 1) * 4 - 1)
    · have HC := Lib.hid (writeB_no (v := v) (writeArgs_2 ha))
      go_wp2_with (first | (go_at_call 48; refine (l1In_any _ _ _ _).mono ?_; rintro e w' ⟨rfl, rfl⟩) | (go_at_call 49; refine (l20Logical_any _ _ (by omega) (by omega)).mono ?_; rintro e w' ⟨rfl, rfl⟩))
      refine bodyPost_ret (v := .agg #[.slice none 0 0, .slice none 0 0]) (by simp [results, Try.results44, go_sem, *]; done) rfl ⟨_, _, rfl, ?_, ?_⟩
      · rw [HC.out]; exact flashOwn_nil0 _ _ _
      · exact (by repeat (first | with_reducible exact W1.out | with_reducible exact Below.refl _ _ | with_reducible refine below_drewN ?_ _ | with_reducible refine Below.drew ?_ | with_reducible refine Below.alloc ?_ ?_ _ | with_reducible refine Below.setCell ?_ ?_ _ | (with_reducible refine Below.next ?_ (by assumption)) | ((with_reducible refine Below.far' (by assumption) ?_ ?_ ?_); (focus (first | omega | (simp; omega) | (simp; done))); (focus (first | omega | (simp; omega) | (simp; done)))) | omega | (focus (simp; omega)) | (focus (simp; done))))
    · cases hb : inB v 0 255
      · have HC := Lib.hid (writeB_no (f := f) (x := x) (writeArgs_3 hb))
        go_wp2_with (first | (go_at_call 48; refine (l1In_any _ _ _ _).mono ?_; rintro e w' ⟨rfl, rfl⟩) | (go_at_call 49; refine (l20Logical_any _ _ (by omega) (by omega)).mono ?_; rintro e w' ⟨rfl, rfl⟩))
        refine bodyPost_ret (v := .agg #[.slice none 0 0, .slice none 0 0]) (by simp [results, Try.results44, go_sem, *]; done) rfl ⟨_, _, rfl, ?_, ?_⟩
        · rw [HC.out]; exact flashOwn_nil0 _ _ _
        · exact (by repeat (first | with_reducible exact W1.out | with_reducible exact Below.refl _ _ | with_reducible refine below_drewN ?_ _ | with_reducible refine Below.drew ?_ | with_reducible refine Below.alloc ?_ ?_ _ | with_reducible refine Below.setCell ?_ ?_ _ | (with_reducible refine Below.next ?_ (by assumption)) | ((with_reducible refine Below.far' (by assumption) ?_ ?_ ?_); (focus (first | omega | (simp; omega) | (simp; done))); (focus (first | omega | (simp; omega) | (simp; done)))) | omega | (focus (simp; omega)) | (focus (simp; done))))
      · have HWA := Lib.hid (writeB_yes (writeArgs_yes HV.out ha hb))
        obtain ⟨x0, xhi⟩ := inB_true.1 ha
        have HROOM0 := Lib.hid ok.out.room
        have HLIVE0 : Hid (LiveOk (roomF f).pages) := Lib.hid (ok.out.one.perm (roomF_live ok.out).1.symm)
        go_wp2_with fail
        refine (l20Logical_any _ _ (by omega) (by omega)).mono ?_
        rintro e w' ⟨rfl, rfl⟩
        go_wp2_with fail
        refine (l1In_any _ _ _ _).mono ?_
        rw [ha]
        rintro e w' ⟨rfl, rfl⟩
        go_wp2_with fail
        refine (l1In_any _ _ _ _).mono ?_
        rw [hb]
        rintro e w' ⟨rfl, rfl⟩
        clear ha hb
        go_wp2_with fail
        refine (copyFlash_c _ _ f _ (FlashRd.below HR.out W1.out) hs).mono ?_
        rintro e w2 ⟨y0, y1, rfl, O2, hb2⟩
        obtain ⟨A1, c1, A2, c2, rfl, rfl⟩ := flashRd_lens O2.rd
        have LR := Loc.carryB M1 (fun h => by ((repeat (first | with_reducible exact h | with_reducible refine Loc.drew ?_ | with_reducible refine Loc.drewN ?_ _ | with_reducible refine Loc.alloc ?_ _)); done)) hb2
        have LX := Loc.newAt w2 [.slice A1 f.pages.length c1, .slice A2 f.erases.length c2] 30 (b := w2.heap.size) rfl
        have W2 : Hid (Below w.heap.size w w2) := Lib.hid (Below.next (W := w) W1.out hb2)
        have H2 := Lib.hid O2
        have hz1 := W1.out.size
        have hz2 := hb2.size
        have hRB1 : w.heap.size + 1 < w1.heap.size := zM1
        clear hb2 O2 m0 m1 mf l0 l1 lf zM0 zM1
        have zR2 := LR.lt
        have hBw : w.heap.size ≤ w1.heap.size := hz1
        go_wp2_with fail
        refine (l20Find_c _ _ f (-1) _ (FlashRd.below (FlashOwn.rd H2.out) (by repeat (first | with_reducible exact Below.refl _ _ | with_reducible refine below_drewN ?_ _ | with_reducible refine Below.drew ?_ | with_reducible refine Below.alloc ?_ ?_ _ | with_reducible refine Below.setCell ?_ ?_ _ | omega | (focus (simp; omega)) | (focus (simp; done))))) hs).mono ?_
        have hfi : Hid (idx (f.pages.map Pg.own) (-1) = freeIx f.pages) := Lib.hid rfl
        rw [hfi.out]
        by_cases hfx : freeIx f.pages < 0
        · have hrf := Lib.hid (roomF_free hfx)
          rintro e w3 ⟨rfl, hb3⟩
          replace LR := Loc.carryB LR (fun h => by ((repeat (first | with_reducible exact h | with_reducible refine Loc.drew ?_ | with_reducible refine Loc.drewN ?_ _ | with_reducible refine Loc.alloc ?_ _)); done)) hb3
          replace LX := Loc.carryB LX (fun h => by ((repeat (first | with_reducible exact h | with_reducible refine Loc.drew ?_ | with_reducible refine Loc.drewN ?_ _ | with_reducible refine Loc.alloc ?_ _)); done)) hb3
          have H3 := Lib.hid (FlashOwn.below H2.out (Below.next (by repeat (first | with_reducible exact Below.refl _ _ | with_reducible refine below_drewN ?_ _ | with_reducible refine Below.drew ?_ | with_reducible refine Below.alloc ?_ ?_ _ | with_reducible refine Below.setCell ?_ ?_ _ | omega | (focus (simp; omega)) | (focus (simp; done)))) hb3))
          have W3 : Hid (Below w.heap.size w w3) := Lib.hid (Below.next (W := w) (by repeat (first | with_reducible exact W2.out | with_reducible exact Below.refl _ _ | with_reducible refine below_drewN ?_ _ | with_reducible refine Below.drew ?_ | with_reducible refine Below.alloc ?_ ?_ _ | with_reducible refine Below.setCell ?_ ?_ _ | (with_reducible refine Below.next ?_ (by assumption)) | ((with_reducible refine Below.far' (by assumption) ?_ ?_ ?_); (focus (first | omega | (simp; omega) | (simp; done))); (focus (first | omega | (simp; omega) | (simp; done)))) | omega | (focus (simp; omega)) | (focus (simp; done)))) hb3)
          have hz3 := hb3.size
          simp at hz3
          have zX3 := LX.lt
          have zR3 := LR.lt
          clear hb3 zR2
          go_wp2_with fail
          refine (l20Collect_c w2.heap.size A1 A2 c1 c2 f w1.heap.size w2.heap.size _ LX H3.out (.inr (Nat.le_refl _)) (by omega) hs ok.out (fun x hx => (ok.out.ers x hx).2)).mono ?_
          rw [← hrf.out]
          have hFl : (roomF f).pages.length ≤ 24 := by rw [(roomF_live ok.out).2.1]; exact hp24
          have hFp : Hid (f.pages.length = (roomF f).pages.length) := Lib.hid (roomF_live ok.out).2.1.symm
          have hFe : Hid (f.erases.length = (roomF f).erases.length) := Lib.hid (roomF_live ok.out).2.2.symm
          obtain ⟨F, hF⟩ : ∃ F, F = roomF f := ⟨_, rfl⟩
          have HROOM := HROOM0
          have HLIVE := HLIVE0
          have HW := HWA
          rw [← hF] at HROOM HLIVE HW hFl hFp hFe ⊢
          clear hF hfx
          rintro e wz ⟨rfl, O4, gi4⟩
          replace LR := Loc.carryG LR (fun h => by ((repeat (first | with_reducible exact h | with_reducible refine Loc.drew ?_ | with_reducible refine Loc.drewN ?_ _ | with_reducible refine Loc.alloc ?_ _)); done)) gi4 (by first | omega | (simp; omega) | (simp; done))
          replace LX := Loc.carryG LX (fun h => by ((repeat (first | with_reducible exact h | with_reducible refine Loc.drew ?_ | with_reducible refine Loc.drewN ?_ _ | with_reducible refine Loc.alloc ?_ _)); done)) gi4 (by first | omega | (simp; omega) | (simp; done))
          have WZ : Hid (Below w.heap.size w wz) := Lib.hid (Below.gin (D := w.heap.size) (a := w) W3.out gi4 (by omega) (by omega))
          have hz4 := gi4.size
          rw [hFp.out, hFe.out] at LX O4
          have HO := Lib.hid O4
          obtain ⟨B, hB⟩ : ∃ B, B = w1.heap.size := ⟨_, rfl⟩
          obtain ⟨C, hC⟩ : ∃ C, C = w2.heap.size := ⟨_, rfl⟩
          obtain ⟨X, hX⟩ : ∃ X, X = w2.heap.size := ⟨_, rfl⟩
          rw [← hB, ← hC] at HO
          rw [← hX] at LX ⊢
          have hXC : C ≤ X := by omega
          have hBw : w.heap.size ≤ B := by omega
          have hRB : w.heap.size + 1 < B := by omega
          have hCz : C ≤ wz.heap.size := by omega
          have hXz : X < wz.heap.size := by omega
          clear hB hC hX gi4 H2 H3 O4 W2
          have hds := dropL_spec F.pages x x0 HLIVE.out
          have hdl : Hid ((dropL F.pages x).length = F.pages.length) := Lib.hid hds.2.2.1
          have hfr : Hid (0 < freeN (dropL F.pages x)) := Lib.hid (by rw [hds.2.1]; exact HROOM.out)
          obtain ⟨q, hq, hql, -⟩ := freeIx_ok hfr.out
          have HQ : Hid (idx ((dropL F.pages x).map Pg.own) (-1) = (q : Int)) := Lib.hid hq
          have HPUT : Hid (put1 (dropL F.pages x) ⟨x, v⟩ = (dropL F.pages x).set q ⟨x, v⟩) := Lib.hid (by unfold put1; rw [hq]; rfl)
          have hql' : q < F.pages.length := by rw [← hdl.out]; exact hql
          clear hds hq
          obtain ⟨xx0, xx1, xxf⟩ := LX.two
          obtain ⟨rr0, rr1, rrf⟩ := LR.two
          have zX := LX.lt
          have zR := LR.lt
          have HRDZ := Lib.hid (FlashOwn.rdp HO.out)
          have hlt24 : F.pages.length ≤ 1099511627776 := by omega
          go_wp2_with fail
          have hszF : Hid (sizeFlash F ≤ 1099511627776) := Lib.hid (by unfold sizeFlash at hs ⊢; first | exact hs | (rw [← hFe.out]; omega))
          refine (l20Find_c _ _ F x _ (FlashRd.below (FlashOwn.rd HO.out) (by repeat (first | with_reducible exact Below.refl _ _ | with_reducible refine below_drewN ?_ _ | with_reducible refine Below.drew ?_ | with_reducible refine Below.alloc ?_ ?_ _ | with_reducible refine Below.setCell ?_ ?_ _ | omega | (focus (simp; omega)) | (focus (simp; done))))) hszF.out).mono ?_
          have hixl := idx_le (F.pages.map Pg.own) x
          rw [List.length_map] at hixl
          by_cases hix : idx (F.pages.map Pg.own) x < 0
          · have hdn := Lib.hid (dropL_no hix)
            obtain ⟨ix, hixe⟩ : ∃ ix, ix = idx (F.pages.map Pg.own) x := ⟨_, rfl⟩
            rw [← hixe] at hix ⊢
            have hixd : decide (0 ≤ ix) = false := by simpa using hix
            clear hixe hixl
            rintro e wy ⟨rfl, hby⟩
            replace LX := Loc.carryB LX (fun h => by ((repeat (first | with_reducible exact h | with_reducible refine Loc.drew ?_ | with_reducible refine Loc.drewN ?_ _ | with_reducible refine Loc.alloc ?_ _)); done)) hby
            replace LR := Loc.carryB LR (fun h => by ((repeat (first | with_reducible exact h | with_reducible refine Loc.drew ?_ | with_reducible refine Loc.drewN ?_ _ | with_reducible refine Loc.alloc ?_ _)); done)) hby
            replace WZ := Lib.hid (Below.next (W := w) (by repeat (first | with_reducible exact WZ.out | with_reducible exact Below.refl _ _ | with_reducible refine below_drewN ?_ _ | with_reducible refine Below.drew ?_ | with_reducible refine Below.alloc ?_ ?_ _ | with_reducible refine Below.setCell ?_ ?_ _ | (with_reducible refine Below.next ?_ (by assumption)) | ((with_reducible refine Below.far' (by assumption) ?_ ?_ ?_); (focus (first | omega | (simp; omega) | (simp; done))); (focus (first | omega | (simp; omega) | (simp; done)))) | omega | (focus (simp; omega)) | (focus (simp; done)))) hby)
            have HO2 : Hid (FlashOwn B wy C _ ⟨dropL F.pages x, F.erases⟩) := Lib.hid (by rw [hdn.out]; exact FlashOwn.below HO.out (Below.next (by repeat (first | with_reducible exact Below.refl _ _ | with_reducible refine below_drewN ?_ _ | with_reducible refine Below.drew ?_ | with_reducible refine Below.alloc ?_ ?_ _ | with_reducible refine Below.setCell ?_ ?_ _ | omega | (focus (simp; omega)) | (focus (simp; done)))) hby))
            have hzy := hby.size
            (try simp at hzy)
            clear xx0 xx1 xxf rr0 rr1 rrf hby
            obtain ⟨xx0, xx1, xxf⟩ := LX.two
            obtain ⟨rr0, rr1, rrf⟩ := LR.two
            have zX2 := LX.lt
            have zR2 := LR.lt
            have hszD : Hid (sizeFlash ⟨dropL F.pages x, F.erases⟩ ≤ 1099511627776) := Lib.hid (by have := hszF.out; unfold sizeFlash at this ⊢; simp only; rw [hdl.out]; exact this)
            obtain ⟨gq, hgq, hgq1, hgq2, hgq3, -, hgq4, -, -, -, -, -⟩ := HO2.out.page (k := q) hql
            cases hgq
            go_wp2
            obtain ⟨u0, u1, uf⟩ := LX.two
            go_region_held3 (fun w' => w'.cell? ⟨X, 0, none⟩ = some (.slice (some ⟨gq, 0, none⟩) F.pages.length c1) ∧ w'.cell? ⟨X, 1, none⟩ = some (.slice A2 F.erases.length c2)) (first | go_keep | (refine ⟨?_, ?_⟩ <;> assumption) | (refine ⟨?_, ?_⟩ <;> (simp [go_sem, *]; done)))
              ((go_at_call 64; (with_reducible refine (l20Find_c _ _ ⟨dropL F.pages x, F.erases⟩ (-1) _ (FlashRd.below (FlashOwn.rd HO2.out) (by repeat (first | with_reducible exact Below.refl _ _ | with_reducible refine below_drewN ?_ _ | with_reducible refine Below.drew ?_ | with_reducible refine Below.alloc ?_ ?_ _ | with_reducible refine Below.setCell ?_ ?_ _ | omega | (focus (simp; omega)) | (focus (simp; done))))) hszD.out).mono ?_); rw [HQ.out]; rintro e wu ⟨rfl, hbu⟩; replace LX := Loc.carryB LX (fun h => by ((repeat (first | with_reducible exact h | with_reducible refine Loc.drew ?_ | with_reducible refine Loc.drewN ?_ _ | with_reducible refine Loc.alloc ?_ _)); done)) hbu; replace LR := Loc.carryB LR (fun h => by ((repeat (first | with_reducible exact h | with_reducible refine Loc.drew ?_ | with_reducible refine Loc.drewN ?_ _ | with_reducible refine Loc.alloc ?_ _)); done)) hbu; obtain ⟨x0', x1', xf'⟩ := LX.two; obtain ⟨r0', r1', rf'⟩ := LR.two; have zX' := LX.lt; have zR' := LR.lt; have BU : Hid (Below w.heap.size w wu) := Lib.hid (Below.next (W := w) (by repeat (first | with_reducible exact WZ.out | with_reducible exact Below.refl _ _ | with_reducible refine below_drewN ?_ _ | with_reducible refine Below.drew ?_ | with_reducible refine Below.alloc ?_ ?_ _ | with_reducible refine Below.setCell ?_ ?_ _ | (with_reducible refine Below.next ?_ (by assumption)) | ((with_reducible refine Below.far' (by assumption) ?_ ?_ ?_); (focus (first | omega | (simp; omega) | (simp; done))); (focus (first | omega | (simp; omega) | (simp; done)))) | omega | (focus (simp; omega)) | (focus (simp; done)))) hbu); have OU := FlashOwn.below HO2.out (Below.next (by repeat (first | with_reducible exact Below.refl _ _ | with_reducible refine below_drewN ?_ _ | with_reducible refine Below.drew ?_ | with_reducible refine Below.alloc ?_ ?_ _ | with_reducible refine Below.setCell ?_ ?_ _ | omega | (focus (simp; omega)) | (focus (simp; done)))) hbu); obtain ⟨gq2, hgqe, -, -, hgq5, -, -, hfzq, hcq1, hcq2, hsetq, -⟩ := OU.page (k := q) hql; cases hgqe; have HS := Lib.hid (hsetq ⟨x, v⟩); have hzu := hbu.size; (try simp at hzu); clear hsetq OU hbu))
            go_wp2
            refine bodyPost_ret (v := .agg #[.slice (some ⟨gq, 0, none⟩) F.pages.length c1, .slice A2 F.erases.length c2]) (by simp [results, Try.results44, go_sem, *]; done) rfl ⟨_, _, rfl, ?_, ?_⟩
            · rw [HW.out, HPUT.out]
              exact FlashOwn.mono (B := B) (C := C) (by repeat (first | with_reducible exact HS.out | with_reducible refine FlashOwn.drew ?_ | with_reducible refine FlashOwn.drewN ?_ _ | with_reducible refine FlashOwn.alloc ?_ _ | (with_reducible refine FlashOwn.below ?_ (by assumption)) | ((with_reducible refine FlashOwn.other ?_ ?_ _); rotate_left; (focus (first | omega | (simp; omega) | (simp; done)))))) hBw (by simp; omega)
            · exact (by repeat (first | with_reducible exact BU.out | with_reducible exact Below.refl _ _ | with_reducible refine below_drewN ?_ _ | with_reducible refine Below.drew ?_ | with_reducible refine Below.alloc ?_ ?_ _ | with_reducible refine Below.setCell ?_ ?_ _ | (with_reducible refine Below.next ?_ (by assumption)) | ((with_reducible refine Below.far' (by assumption) ?_ ?_ ?_); (focus (first | omega | (simp; omega) | (simp; done))); (focus (first | omega | (simp; omega) | (simp; done)))) | omega | (focus (simp; omega)) | (focus (simp; done))))
          · obtain ⟨i, hi, hil, hio, -⟩ := idx_get (Int.not_lt.1 hix)
            rw [List.length_map] at hil
            have hda := Lib.hid (dropL_at hi hil)
            rw [hi]
            clear hix hixl hio
            rintro e wy ⟨rfl, hby⟩
            replace LX := Loc.carryB LX (fun h => by ((repeat (first | with_reducible exact h | with_reducible refine Loc.drew ?_ | with_reducible refine Loc.drewN ?_ _ | with_reducible refine Loc.alloc ?_ _)); done)) hby
            replace LR := Loc.carryB LR (fun h => by ((repeat (first | with_reducible exact h | with_reducible refine Loc.drew ?_ | with_reducible refine Loc.drewN ?_ _ | with_reducible refine Loc.alloc ?_ _)); done)) hby
            replace WZ := Lib.hid (Below.next (W := w) (by repeat (first | with_reducible exact WZ.out | with_reducible exact Below.refl _ _ | with_reducible refine below_drewN ?_ _ | with_reducible refine Below.drew ?_ | with_reducible refine Below.alloc ?_ ?_ _ | with_reducible refine Below.setCell ?_ ?_ _ | (with_reducible refine Below.next ?_ (by assumption)) | ((with_reducible refine Below.far' (by assumption) ?_ ?_ ?_); (focus (first | omega | (simp; omega) | (simp; done))); (focus (first | omega | (simp; omega) | (simp; done)))) | omega | (focus (simp; omega)) | (focus (simp; done)))) hby)
            have OY := FlashOwn.below HO.out (Below.next (by repeat (first | with_reducible exact Below.refl _ _ | with_reducible refine below_drewN ?_ _ | with_reducible refine Below.drew ?_ | with_reducible refine Below.alloc ?_ ?_ _ | with_reducible refine Below.setCell ?_ ?_ _ | omega | (focus (simp; omega)) | (focus (simp; done)))) hby)
            obtain ⟨gi, hgi, hgi1, hgi2, hgi3, -, hgi4, hfzi, hci1, hci2, -, hseti⟩ := OY.page (k := i) hil
            obtain rfl := hgi
            have HS1 := Lib.hid (hseti (-2))
            have HO2 : Hid (FlashOwn B (wy.setCell ⟨gi, i * 2, none⟩ (.int .i64 (-2))) C _ ⟨dropL F.pages x, F.erases⟩) := Lib.hid (by rw [hda.out]; exact HS1.out)
            have hzy := hby.size
            (try simp at hzy)
            clear xx0 xx1 xxf rr0 rr1 rrf hby OY hseti HS1
            obtain ⟨xx0, xx1, xxf⟩ := LX.two
            obtain ⟨rr0, rr1, rrf⟩ := LR.two
            have zX2 := LX.lt
            have zR2 := LR.lt
            replace LX := Loc.other' (p := ⟨gi, i * 2, none⟩) (by simp; omega) LX (.int .i64 (-2))
            replace LR := Loc.other' (p := ⟨gi, i * 2, none⟩) (by simp; omega) LR (.int .i64 (-2))
            replace WZ := Lib.hid (Below.setCell (p := ⟨gi, i * 2, none⟩) WZ.out (by simp; omega) (.int .i64 (-2)))
            have hszD : Hid (sizeFlash ⟨dropL F.pages x, F.erases⟩ ≤ 1099511627776) := Lib.hid (by have := hszF.out; unfold sizeFlash at this ⊢; simp only; rw [hdl.out]; exact this)
            obtain ⟨gq, hgq, hgq1, hgq2, hgq3, -, hgq4, -, -, -, -, -⟩ := HO2.out.page (k := q) hql
            cases hgq
            go_wp2
            obtain ⟨u0, u1, uf⟩ := LX.two
            go_region_held3 (fun w' => w'.cell? ⟨X, 0, none⟩ = some (.slice (some ⟨gi, 0, none⟩) F.pages.length c1) ∧ w'.cell? ⟨X, 1, none⟩ = some (.slice A2 F.erases.length c2)) (first | go_keep | (refine ⟨?_, ?_⟩ <;> assumption) | (refine ⟨?_, ?_⟩ <;> (simp [go_sem, *]; done)))
              ((go_at_call 64; (with_reducible refine (l20Find_c _ _ ⟨dropL F.pages x, F.erases⟩ (-1) _ (FlashRd.below (FlashOwn.rd HO2.out) (by repeat (first | with_reducible exact Below.refl _ _ | with_reducible refine below_drewN ?_ _ | with_reducible refine Below.drew ?_ | with_reducible refine Below.alloc ?_ ?_ _ | with_reducible refine Below.setCell ?_ ?_ _ | omega | (focus (simp; omega)) | (focus (simp; done))))) hszD.out).mono ?_); rw [HQ.out]; rintro e wu ⟨rfl, hbu⟩; replace LX := Loc.carryB LX (fun h => by ((repeat (first | with_reducible exact h | with_reducible refine Loc.drew ?_ | with_reducible refine Loc.drewN ?_ _ | with_reducible refine Loc.alloc ?_ _)); done)) hbu; replace LR := Loc.carryB LR (fun h => by ((repeat (first | with_reducible exact h | with_reducible refine Loc.drew ?_ | with_reducible refine Loc.drewN ?_ _ | with_reducible refine Loc.alloc ?_ _)); done)) hbu; obtain ⟨x0', x1', xf'⟩ := LX.two; obtain ⟨r0', r1', rf'⟩ := LR.two; have zX' := LX.lt; have zR' := LR.lt; have BU : Hid (Below w.heap.size w wu) := Lib.hid (Below.next (W := w) (by repeat (first | with_reducible exact WZ.out | with_reducible exact Below.refl _ _ | with_reducible refine below_drewN ?_ _ | with_reducible refine Below.drew ?_ | with_reducible refine Below.alloc ?_ ?_ _ | with_reducible refine Below.setCell ?_ ?_ _ | (with_reducible refine Below.next ?_ (by assumption)) | ((with_reducible refine Below.far' (by assumption) ?_ ?_ ?_); (focus (first | omega | (simp; omega) | (simp; done))); (focus (first | omega | (simp; omega) | (simp; done)))) | omega | (focus (simp; omega)) | (focus (simp; done)))) hbu); have OU := FlashOwn.below HO2.out (Below.next (by repeat (first | with_reducible exact Below.refl _ _ | with_reducible refine below_drewN ?_ _ | with_reducible refine Below.drew ?_ | with_reducible refine Below.alloc ?_ ?_ _ | with_reducible refine Below.setCell ?_ ?_ _ | omega | (focus (simp; omega)) | (focus (simp; done)))) hbu); obtain ⟨gq2, hgqe, -, -, hgq5, -, -, hfzq, hcq1, hcq2, hsetq, -⟩ := OU.page (k := q) hql; cases hgqe; have HS := Lib.hid (hsetq ⟨x, v⟩); have hzu := hbu.size; (try simp at hzu); clear hsetq OU hbu))
            go_wp2
            refine bodyPost_ret (v := .agg #[.slice (some ⟨gi, 0, none⟩) F.pages.length c1, .slice A2 F.erases.length c2]) (by simp [results, Try.results44, go_sem, *]; done) rfl ⟨_, _, rfl, ?_, ?_⟩
            · rw [HW.out, HPUT.out]
              exact FlashOwn.mono (B := B) (C := C) (by repeat (first | with_reducible exact HS.out | with_reducible refine FlashOwn.drew ?_ | with_reducible refine FlashOwn.drewN ?_ _ | with_reducible refine FlashOwn.alloc ?_ _ | (with_reducible refine FlashOwn.below ?_ (by assumption)) | ((with_reducible refine FlashOwn.other ?_ ?_ _); rotate_left; (focus (first | omega | (simp; omega) | (simp; done)))))) hBw (by simp; omega)
            · exact (by repeat (first | with_reducible exact BU.out | with_reducible exact Below.refl _ _ | with_reducible refine below_drewN ?_ _ | with_reducible refine Below.drew ?_ | with_reducible refine Below.alloc ?_ ?_ _ | with_reducible refine Below.setCell ?_ ?_ _ | (with_reducible refine Below.next ?_ (by assumption)) | ((with_reducible refine Below.far' (by assumption) ?_ ?_ ?_); (focus (first | omega | (simp; omega) | (simp; done))); (focus (first | omega | (simp; omega) | (simp; done)))) | omega | (focus (simp; omega)) | (focus (simp; done))))
        · have hrf := Lib.hid (roomF_none hfx)
          obtain ⟨fx, hfxe⟩ : ∃ fx, fx = freeIx f.pages := ⟨_, rfl⟩
          rw [← hfxe] at hfx ⊢
          clear hfxe
          rintro e wz ⟨rfl, hbz⟩
          replace LR := Loc.carryB LR (fun h => by ((repeat (first | with_reducible exact h | with_reducible refine Loc.drew ?_ | with_reducible refine Loc.drewN ?_ _ | with_reducible refine Loc.alloc ?_ _)); done)) hbz
          replace LX := Loc.carryB LX (fun h => by ((repeat (first | with_reducible exact h | with_reducible refine Loc.drew ?_ | with_reducible refine Loc.drewN ?_ _ | with_reducible refine Loc.alloc ?_ _)); done)) hbz
          have WZ : Hid (Below w.heap.size w wz) := Lib.hid (Below.next (W := w) (by repeat (first | with_reducible exact W2.out | with_reducible exact Below.refl _ _ | with_reducible refine below_drewN ?_ _ | with_reducible refine Below.drew ?_ | with_reducible refine Below.alloc ?_ ?_ _ | with_reducible refine Below.setCell ?_ ?_ _ | (with_reducible refine Below.next ?_ (by assumption)) | ((with_reducible refine Below.far' (by assumption) ?_ ?_ ?_); (focus (first | omega | (simp; omega) | (simp; done))); (focus (first | omega | (simp; omega) | (simp; done)))) | omega | (focus (simp; omega)) | (focus (simp; done)))) hbz)
          have HO := Lib.hid (FlashOwn.below H2.out (Below.next (by repeat (first | with_reducible exact Below.refl _ _ | with_reducible refine below_drewN ?_ _ | with_reducible refine Below.drew ?_ | with_reducible refine Below.alloc ?_ ?_ _ | with_reducible refine Below.setCell ?_ ?_ _ | omega | (focus (simp; omega)) | (focus (simp; done)))) hbz))
          have hzz := hbz.size
          simp at hzz
          have HROOM := HROOM0
          rw [hrf.out] at HROOM
          have HLIVE := HLIVE0
          rw [hrf.out] at HLIVE
          have HW := HWA
          rw [hrf.out] at HW
          obtain ⟨B, hB⟩ : ∃ B, B = w1.heap.size := ⟨_, rfl⟩
          obtain ⟨C, hC⟩ : ∃ C, C = w2.heap.size := ⟨_, rfl⟩
          obtain ⟨X, hX⟩ : ∃ X, X = w2.heap.size := ⟨_, rfl⟩
          rw [← hB, ← hC] at HO
          rw [← hX] at LX ⊢
          have hXC : C ≤ X := by omega
          have hBw : w.heap.size ≤ B := by omega
          have hRB : w.heap.size + 1 < B := by omega
          have hCz : C ≤ wz.heap.size := by omega
          have hXz : X < wz.heap.size := by omega
          clear hB hC hX hbz H2 zR2 W2
          have hds := dropL_spec f.pages x x0 HLIVE.out
          have hdl : Hid ((dropL f.pages x).length = f.pages.length) := Lib.hid hds.2.2.1
          have hfr : Hid (0 < freeN (dropL f.pages x)) := Lib.hid (by rw [hds.2.1]; exact HROOM.out)
          obtain ⟨q, hq, hql, -⟩ := freeIx_ok hfr.out
          have HQ : Hid (idx ((dropL f.pages x).map Pg.own) (-1) = (q : Int)) := Lib.hid hq
          have HPUT : Hid (put1 (dropL f.pages x) ⟨x, v⟩ = (dropL f.pages x).set q ⟨x, v⟩) := Lib.hid (by unfold put1; rw [hq]; rfl)
          have hql' : q < f.pages.length := by rw [← hdl.out]; exact hql
          clear hds hq
          obtain ⟨xx0, xx1, xxf⟩ := LX.two
          obtain ⟨rr0, rr1, rrf⟩ := LR.two
          have zX := LX.lt
          have zR := LR.lt
          have HRDZ := Lib.hid (FlashOwn.rdp HO.out)
          have hlt24 : f.pages.length ≤ 1099511627776 := by omega
          go_wp2_with fail
          have hszF : Hid (sizeFlash f ≤ 1099511627776) := Lib.hid (by unfold sizeFlash at hs ⊢; first | exact hs | (rw [← hFe.out]; omega))
          refine (l20Find_c _ _ f x _ (FlashRd.below (FlashOwn.rd HO.out) (by repeat (first | with_reducible exact Below.refl _ _ | with_reducible refine below_drewN ?_ _ | with_reducible refine Below.drew ?_ | with_reducible refine Below.alloc ?_ ?_ _ | with_reducible refine Below.setCell ?_ ?_ _ | omega | (focus (simp; omega)) | (focus (simp; done))))) hszF.out).mono ?_
          have hixl := idx_le (f.pages.map Pg.own) x
          rw [List.length_map] at hixl
          by_cases hix : idx (f.pages.map Pg.own) x < 0
          · have hdn := Lib.hid (dropL_no hix)
            obtain ⟨ix, hixe⟩ : ∃ ix, ix = idx (f.pages.map Pg.own) x := ⟨_, rfl⟩
            rw [← hixe] at hix ⊢
            have hixd : decide (0 ≤ ix) = false := by simpa using hix
            clear hixe hixl
            rintro e wy ⟨rfl, hby⟩
            replace LX := Loc.carryB LX (fun h => by ((repeat (first | with_reducible exact h | with_reducible refine Loc.drew ?_ | with_reducible refine Loc.drewN ?_ _ | with_reducible refine Loc.alloc ?_ _)); done)) hby
            replace LR := Loc.carryB LR (fun h => by ((repeat (first | with_reducible exact h | with_reducible refine Loc.drew ?_ | with_reducible refine Loc.drewN ?_ _ | with_reducible refine Loc.alloc ?_ _)); done)) hby
            replace WZ := Lib.hid (Below.next (W := w) (by repeat (first | with_reducible exact WZ.out | with_reducible exact Below.refl _ _ | with_reducible refine below_drewN ?_ _ | with_reducible refine Below.drew ?_ | with_reducible refine Below.alloc ?_ ?_ _ | with_reducible refine Below.setCell ?_ ?_ _ | (with_reducible refine Below.next ?_ (by assumption)) | ((with_reducible refine Below.far' (by assumption) ?_ ?_ ?_); (focus (first | omega | (simp; omega) | (simp; done))); (focus (first | omega | (simp; omega) | (simp; done)))) | omega | (focus (simp; omega)) | (focus (simp; done)))) hby)
            have HO2 : Hid (FlashOwn B wy C _ ⟨dropL f.pages x, f.erases⟩) := Lib.hid (by rw [hdn.out]; exact FlashOwn.below HO.out (Below.next (by repeat (first | with_reducible exact Below.refl _ _ | with_reducible refine below_drewN ?_ _ | with_reducible refine Below.drew ?_ | with_reducible refine Below.alloc ?_ ?_ _ | with_reducible refine Below.setCell ?_ ?_ _ | omega | (focus (simp; omega)) | (focus (simp; done)))) hby))
            have hzy := hby.size
            (try simp at hzy)
            clear xx0 xx1 xxf rr0 rr1 rrf hby
            obtain ⟨xx0, xx1, xxf⟩ := LX.two
            obtain ⟨rr0, rr1, rrf⟩ := LR.two
            have zX2 := LX.lt
            have zR2 := LR.lt
            have hszD : Hid (sizeFlash ⟨dropL f.pages x, f.erases⟩ ≤ 1099511627776) := Lib.hid (by have := hszF.out; unfold sizeFlash at this ⊢; simp only; rw [hdl.out]; exact this)
            obtain ⟨gq, hgq, hgq1, hgq2, hgq3, -, hgq4, -, -, -, -, -⟩ := HO2.out.page (k := q) hql
            cases hgq
            go_wp2
            obtain ⟨u0, u1, uf⟩ := LX.two
            go_region_held3 (fun w' => w'.cell? ⟨X, 0, none⟩ = some (.slice (some ⟨gq, 0, none⟩) f.pages.length c1) ∧ w'.cell? ⟨X, 1, none⟩ = some (.slice A2 f.erases.length c2)) (first | go_keep | (refine ⟨?_, ?_⟩ <;> assumption) | (refine ⟨?_, ?_⟩ <;> (simp [go_sem, *]; done)))
              ((go_at_call 64; (with_reducible refine (l20Find_c _ _ ⟨dropL f.pages x, f.erases⟩ (-1) _ (FlashRd.below (FlashOwn.rd HO2.out) (by repeat (first | with_reducible exact Below.refl _ _ | with_reducible refine below_drewN ?_ _ | with_reducible refine Below.drew ?_ | with_reducible refine Below.alloc ?_ ?_ _ | with_reducible refine Below.setCell ?_ ?_ _ | omega | (focus (simp; omega)) | (focus (simp; done))))) hszD.out).mono ?_); rw [HQ.out]; rintro e wu ⟨rfl, hbu⟩; replace LX := Loc.carryB LX (fun h => by ((repeat (first | with_reducible exact h | with_reducible refine Loc.drew ?_ | with_reducible refine Loc.drewN ?_ _ | with_reducible refine Loc.alloc ?_ _)); done)) hbu; replace LR := Loc.carryB LR (fun h => by ((repeat (first | with_reducible exact h | with_reducible refine Loc.drew ?_ | with_reducible refine Loc.drewN ?_ _ | with_reducible refine Loc.alloc ?_ _)); done)) hbu; obtain ⟨x0', x1', xf'⟩ := LX.two; obtain ⟨r0', r1', rf'⟩ := LR.two; have zX' := LX.lt; have zR' := LR.lt; have BU : Hid (Below w.heap.size w wu) := Lib.hid (Below.next (W := w) (by repeat (first | with_reducible exact WZ.out | with_reducible exact Below.refl _ _ | with_reducible refine below_drewN ?_ _ | with_reducible refine Below.drew ?_ | with_reducible refine Below.alloc ?_ ?_ _ | with_reducible refine Below.setCell ?_ ?_ _ | (with_reducible refine Below.next ?_ (by assumption)) | ((with_reducible refine Below.far' (by assumption) ?_ ?_ ?_); (focus (first | omega | (simp; omega) | (simp; done))); (focus (first | omega | (simp; omega) | (simp; done)))) | omega | (focus (simp; omega)) | (focus (simp; done)))) hbu); have OU := FlashOwn.below HO2.out (Below.next (by repeat (first | with_reducible exact Below.refl _ _ | with_reducible refine below_drewN ?_ _ | with_reducible refine Below.drew ?_ | with_reducible refine Below.alloc ?_ ?_ _ | with_reducible refine Below.setCell ?_ ?_ _ | omega | (focus (simp; omega)) | (focus (simp; done)))) hbu); obtain ⟨gq2, hgqe, -, -, hgq5, -, -, hfzq, hcq1, hcq2, hsetq, -⟩ := OU.page (k := q) hql; cases hgqe; have HS := Lib.hid (hsetq ⟨x, v⟩); have hzu := hbu.size; (try simp at hzu); clear hsetq OU hbu))
            go_wp2
            refine bodyPost_ret (v := .agg #[.slice (some ⟨gq, 0, none⟩) f.pages.length c1, .slice A2 f.erases.length c2]) (by simp [results, Try.results44, go_sem, *]; done) rfl ⟨_, _, rfl, ?_, ?_⟩
            · rw [HW.out, HPUT.out]
              exact FlashOwn.mono (B := B) (C := C) (by repeat (first | with_reducible exact HS.out | with_reducible refine FlashOwn.drew ?_ | with_reducible refine FlashOwn.drewN ?_ _ | with_reducible refine FlashOwn.alloc ?_ _ | (with_reducible refine FlashOwn.below ?_ (by assumption)) | ((with_reducible refine FlashOwn.other ?_ ?_ _); rotate_left; (focus (first | omega | (simp; omega) | (simp; done)))))) hBw (by simp; omega)
            · exact (by repeat (first | with_reducible exact BU.out | with_reducible exact Below.refl _ _ | with_reducible refine below_drewN ?_ _ | with_reducible refine Below.drew ?_ | with_reducible refine Below.alloc ?_ ?_ _ | with_reducible refine Below.setCell ?_ ?_ _ | (with_reducible refine Below.next ?_ (by assumption)) | ((with_reducible refine Below.far' (by assumption) ?_ ?_ ?_); (focus (first | omega | (simp; omega) | (simp; done))); (focus (first | omega | (simp; omega) | (simp; done)))) | omega | (focus (simp; omega)) | (focus (simp; done))))
          · obtain ⟨i, hi, hil, hio, -⟩ := idx_get (Int.not_lt.1 hix)
            rw [List.length_map] at hil
            have hda := Lib.hid (dropL_at hi hil)
            rw [hi]
            clear hix hixl hio
            rintro e wy ⟨rfl, hby⟩
            replace LX := Loc.carryB LX (fun h => by ((repeat (first | with_reducible exact h | with_reducible refine Loc.drew ?_ | with_reducible refine Loc.drewN ?_ _ | with_reducible refine Loc.alloc ?_ _)); done)) hby
            replace LR := Loc.carryB LR (fun h => by ((repeat (first | with_reducible exact h | with_reducible refine Loc.drew ?_ | with_reducible refine Loc.drewN ?_ _ | with_reducible refine Loc.alloc ?_ _)); done)) hby
            replace WZ := Lib.hid (Below.next (W := w) (by repeat (first | with_reducible exact WZ.out | with_reducible exact Below.refl _ _ | with_reducible refine below_drewN ?_ _ | with_reducible refine Below.drew ?_ | with_reducible refine Below.alloc ?_ ?_ _ | with_reducible refine Below.setCell ?_ ?_ _ | (with_reducible refine Below.next ?_ (by assumption)) | ((with_reducible refine Below.far' (by assumption) ?_ ?_ ?_); (focus (first | omega | (simp; omega) | (simp; done))); (focus (first | omega | (simp; omega) | (simp; done)))) | omega | (focus (simp; omega)) | (focus (simp; done)))) hby)
            have OY := FlashOwn.below HO.out (Below.next (by repeat (first | with_reducible exact Below.refl _ _ | with_reducible refine below_drewN ?_ _ | with_reducible refine Below.drew ?_ | with_reducible refine Below.alloc ?_ ?_ _ | with_reducible refine Below.setCell ?_ ?_ _ | omega | (focus (simp; omega)) | (focus (simp; done)))) hby)
            obtain ⟨gi, hgi, hgi1, hgi2, hgi3, -, hgi4, hfzi, hci1, hci2, -, hseti⟩ := OY.page (k := i) hil
            obtain rfl := hgi
            have HS1 := Lib.hid (hseti (-2))
            have HO2 : Hid (FlashOwn B (wy.setCell ⟨gi, i * 2, none⟩ (.int .i64 (-2))) C _ ⟨dropL f.pages x, f.erases⟩) := Lib.hid (by rw [hda.out]; exact HS1.out)
            have hzy := hby.size
            (try simp at hzy)
            clear xx0 xx1 xxf rr0 rr1 rrf hby OY hseti HS1
            obtain ⟨xx0, xx1, xxf⟩ := LX.two
            obtain ⟨rr0, rr1, rrf⟩ := LR.two
            have zX2 := LX.lt
            have zR2 := LR.lt
            replace LX := Loc.other' (p := ⟨gi, i * 2, none⟩) (by simp; omega) LX (.int .i64 (-2))
            replace LR := Loc.other' (p := ⟨gi, i * 2, none⟩) (by simp; omega) LR (.int .i64 (-2))
            replace WZ := Lib.hid (Below.setCell (p := ⟨gi, i * 2, none⟩) WZ.out (by simp; omega) (.int .i64 (-2)))
            have hszD : Hid (sizeFlash ⟨dropL f.pages x, f.erases⟩ ≤ 1099511627776) := Lib.hid (by have := hszF.out; unfold sizeFlash at this ⊢; simp only; rw [hdl.out]; exact this)
            obtain ⟨gq, hgq, hgq1, hgq2, hgq3, -, hgq4, -, -, -, -, -⟩ := HO2.out.page (k := q) hql
            cases hgq
            go_wp2
            obtain ⟨u0, u1, uf⟩ := LX.two
            go_region_held3 (fun w' => w'.cell? ⟨X, 0, none⟩ = some (.slice (some ⟨gi, 0, none⟩) f.pages.length c1) ∧ w'.cell? ⟨X, 1, none⟩ = some (.slice A2 f.erases.length c2)) (first | go_keep | (refine ⟨?_, ?_⟩ <;> assumption) | (refine ⟨?_, ?_⟩ <;> (simp [go_sem, *]; done)))
              ((go_at_call 64; (with_reducible refine (l20Find_c _ _ ⟨dropL f.pages x, f.erases⟩ (-1) _ (FlashRd.below (FlashOwn.rd HO2.out) (by repeat (first | with_reducible exact Below.refl _ _ | with_reducible refine below_drewN ?_ _ | with_reducible refine Below.drew ?_ | with_reducible refine Below.alloc ?_ ?_ _ | with_reducible refine Below.setCell ?_ ?_ _ | omega | (focus (simp; omega)) | (focus (simp; done))))) hszD.out).mono ?_); rw [HQ.out]; rintro e wu ⟨rfl, hbu⟩; replace LX := Loc.carryB LX (fun h => by ((repeat (first | with_reducible exact h | with_reducible refine Loc.drew ?_ | with_reducible refine Loc.drewN ?_ _ | with_reducible refine Loc.alloc ?_ _)); done)) hbu; replace LR := Loc.carryB LR (fun h => by ((repeat (first | with_reducible exact h | with_reducible refine Loc.drew ?_ | with_reducible refine Loc.drewN ?_ _ | with_reducible refine Loc.alloc ?_ _)); done)) hbu; obtain ⟨x0', x1', xf'⟩ := LX.two; obtain ⟨r0', r1', rf'⟩ := LR.two; have zX' := LX.lt; have zR' := LR.lt; have BU : Hid (Below w.heap.size w wu) := Lib.hid (Below.next (W := w) (by repeat (first | with_reducible exact WZ.out | with_reducible exact Below.refl _ _ | with_reducible refine below_drewN ?_ _ | with_reducible refine Below.drew ?_ | with_reducible refine Below.alloc ?_ ?_ _ | with_reducible refine Below.setCell ?_ ?_ _ | (with_reducible refine Below.next ?_ (by assumption)) | ((with_reducible refine Below.far' (by assumption) ?_ ?_ ?_); (focus (first | omega | (simp; omega) | (simp; done))); (focus (first | omega | (simp; omega) | (simp; done)))) | omega | (focus (simp; omega)) | (focus (simp; done)))) hbu); have OU := FlashOwn.below HO2.out (Below.next (by repeat (first | with_reducible exact Below.refl _ _ | with_reducible refine below_drewN ?_ _ | with_reducible refine Below.drew ?_ | with_reducible refine Below.alloc ?_ ?_ _ | with_reducible refine Below.setCell ?_ ?_ _ | omega | (focus (simp; omega)) | (focus (simp; done)))) hbu); obtain ⟨gq2, hgqe, -, -, hgq5, -, -, hfzq, hcq1, hcq2, hsetq, -⟩ := OU.page (k := q) hql; cases hgqe; have HS := Lib.hid (hsetq ⟨x, v⟩); have hzu := hbu.size; (try simp at hzu); clear hsetq OU hbu))
            go_wp2
            refine bodyPost_ret (v := .agg #[.slice (some ⟨gi, 0, none⟩) f.pages.length c1, .slice A2 f.erases.length c2]) (by simp [results, Try.results44, go_sem, *]; done) rfl ⟨_, _, rfl, ?_, ?_⟩
            · rw [HW.out, HPUT.out]
              exact FlashOwn.mono (B := B) (C := C) (by repeat (first | with_reducible exact HS.out | with_reducible refine FlashOwn.drew ?_ | with_reducible refine FlashOwn.drewN ?_ _ | with_reducible refine FlashOwn.alloc ?_ _ | (with_reducible refine FlashOwn.below ?_ (by assumption)) | ((with_reducible refine FlashOwn.other ?_ ?_ _); rotate_left; (focus (first | omega | (simp; omega) | (simp; done)))))) hBw (by simp; omega)
            · exact (by repeat (first | with_reducible exact BU.out | with_reducible exact Below.refl _ _ | with_reducible refine below_drewN ?_ _ | with_reducible refine Below.drew ?_ | with_reducible refine Below.alloc ?_ ?_ _ | with_reducible refine Below.setCell ?_ ?_ _ | (with_reducible refine Below.next ?_ (by assumption)) | ((with_reducible refine Below.far' (by assumption) ?_ ?_ ?_); (focus (first | omega | (simp; omega) | (simp; done))); (focus (first | omega | (simp; omega) | (simp; done)))) | omega | (focus (simp; omega)) | (focus (simp; done))))
end Go.Proofs.Ytnnanknljpkdeaa
