/-
  CollectBlock: the program's and the reference's. Conditions: lengths at most 2^40.
-/
import Derived.Test.YtnnanknljpkdeaaBase
import Derived.Test.YtnnanknljpkdeaaNum
import Derived.Test.YtnnanknljpkdeaaInts
import Derived.Test.YtnnanknljpkdeaaApp
import Derived.Test.YtnnanknljpkdeaaIntsW
import Derived.Test.YtnnanknljpkdeaaLib
import Derived.Test.YtnnanknljpkdeaaSpares
import Derived.Test.YtnnanknljpkdeaaOwn
import Derived.Test.YtnnanknljpkdeaaPage
import Derived.Test.YtnnanknljpkdeaaFlash
import Derived.Test.YtnnanknljpkdeaaFlashM
import Derived.Test.YtnnanknljpkdeaaFlashC
import Derived.Test.YtnnanknljpkdeaaFlashD
import Derived.Test.YtnnanknljpkdeaaFlashV
import Derived.Test.YtnnanknljpkdeaaThinC
import Derived.Test.YtnnanknljpkdeaaFlashW
import Derived.Test.YtnnanknljpkdeaaFlashX
import Derived.Test.YtnnanknljpkdeaaFlashY
import Derived.Test.YtnnanknljpkdeaaFlashZ
namespace Go.Proofs.Ytnnanknljpkdeaa
open Go.RowKit
theorem flashOwn_nil0 (B C : Nat) (w : World) : FlashOwn B w C [.slice none 0 0, .slice none 0 0] ⟨[], []⟩ :=
  ⟨_, _, rfl, SOwn.nil0 _ _ _, SOwn.nil0 _ _ _, fun a n c a' n' c' h _ => by cases h⟩
theorem collectB_no {f : Fl} (h : flashB f = false) : collectB f = ⟨[], []⟩ ∧ collectBOk f = false := by unfold collectB collectBOk; rw [h]; exact ⟨rfl, rfl⟩
theorem collectB_yes {f : Fl} (h : flashB f = true) : collectB f = collectF f ∧ collectBOk f = collectOk f := by unfold collectB collectBOk; rw [h]; exact ⟨rfl, rfl⟩
theorem collectB_size (f : Fl) : sizeFlash (collectB f) ≤ sizeFlash f := by
  cases h : flashB f
  · rw [(collectB_no h).1]; simp [sizeFlash]
  · rw [(collectB_yes h).1]
    have ok := flashB_iff.1 h
    unfold sizeFlash
    rw [collectF_ers]
    unfold collectF
    split
    · simp only
      rw [(collectP_spec ok.best (fun p hp => (ok.own p hp).1)).2.2.2]
      omega
    · exact Nat.le_refl _
set_option maxHeartbeats 4000000 in
theorem implCollect_c (x0 x1 : Value) (f : Fl) (w : World) (h : FlashRd w [x0, x1] f) (hs : sizeFlash f ≤ 1099511627776) :
    Calls Try.prog 40 #[.agg #[x0, x1]] w (MadeFlashB (collectB f) (collectBOk f) w) := by
  obtain ⟨A, c, A', c', rfl, rfl⟩ := flashRd_lens h
  have HR := Lib.hid h
  have L0 := Loc.new w [.slice A f.pages.length c, .slice A' f.erases.length c'] 30
  have L1 := Loc.newAt (w.alloc (.cells #[.slice A f.pages.length c, .slice A' f.erases.length c'] 30)) [.slice none 0 0, .slice none 0 0] 30 (b := w.heap.size + 1) (by simp)
  obtain ⟨k0, k1, kf⟩ := Loc.two (Loc.alloc L0 (.cells #[.slice none 0 0, .slice none 0 0] 30))
  cases hv : flashB f
  · have HV := Lib.hid hv
    have HC := Lib.hid (collectB_no hv)
    clear hv
    go_enter Try.func40, Try.ntmps40
    go_wp2_with fail
    refine (implFlash_c _ _ f _ (FlashRd.below HR.out (by repeat (first | with_reducible exact Below.refl _ _ | with_reducible refine below_drewN ?_ _ | with_reducible refine Below.drew ?_ | with_reducible refine Below.alloc ?_ ?_ _ | with_reducible refine Below.setCell ?_ ?_ _ | omega | (focus (simp; omega)) | (focus (simp; done))))) hs).mono ?_
    rw [HV.out]
    rintro e w1 ⟨rfl, hb1⟩
    have M1 := Loc.carryB L1 (fun h => by ((repeat (first | with_reducible exact h | with_reducible refine Loc.drew ?_ | with_reducible refine Loc.drewN ?_ _ | with_reducible refine Loc.alloc ?_ _)); done)) hb1
    obtain ⟨m0, m1, mf⟩ := M1.two
    go_wp2
    refine bodyPost_ret (v := .tuple #[.agg #[.slice none 0 0, .slice none 0 0], .bool false]) (by simp [results, Try.results40, go_sem, *]; done) rfl ⟨_, _, by rw [HC.out.2], ?_, ?_⟩
    · rw [HC.out.1]; exact flashOwn_nil0 _ _ _
    · exact (by repeat (first | with_reducible exact Below.refl _ _ | with_reducible assumption | with_reducible refine below_drewN ?_ _ | with_reducible refine Below.drew ?_ | with_reducible refine Below.alloc ?_ ?_ _ | with_reducible refine Below.setCell ?_ ?_ _ | (with_reducible refine Below.next ?_ (by assumption)) | omega | (focus (simp; omega)) | (focus (simp; done))))
  · have HV := Lib.hid hv
    have HC := Lib.hid (collectB_yes hv)
    have ok := Lib.hid (flashB_iff.1 hv)
    clear hv
    go_enter Try.func40, Try.ntmps40
    go_wp2_with fail
    refine (implFlash_c _ _ f _ (FlashRd.below HR.out (by repeat (first | with_reducible exact Below.refl _ _ | with_reducible refine below_drewN ?_ _ | with_reducible refine Below.drew ?_ | with_reducible refine Below.alloc ?_ ?_ _ | with_reducible refine Below.setCell ?_ ?_ _ | omega | (focus (simp; omega)) | (focus (simp; done))))) hs).mono ?_
    rw [HV.out]
    rintro e w1 ⟨rfl, hb1⟩
    have M0 := Loc.carryB L0 (fun h => by ((repeat (first | with_reducible exact h | with_reducible refine Loc.drew ?_ | with_reducible refine Loc.drewN ?_ _ | with_reducible refine Loc.alloc ?_ _)); done)) hb1
    have M1 := Loc.carryB L1 (fun h => by ((repeat (first | with_reducible exact h | with_reducible refine Loc.drew ?_ | with_reducible refine Loc.drewN ?_ _ | with_reducible refine Loc.alloc ?_ _)); done)) hb1
    obtain ⟨m0, m1, mf⟩ := M0.two
    have W1 : Hid (Below w.heap.size w w1) := Lib.hid (Below.next (W := w) (by repeat (first | with_reducible exact Below.refl _ _ | with_reducible refine below_drewN ?_ _ | with_reducible refine Below.drew ?_ | with_reducible refine Below.alloc ?_ ?_ _ | with_reducible refine Below.setCell ?_ ?_ _ | omega | (focus (simp; omega)) | (focus (simp; done)))) hb1)
    have zM1 := M1.lt
    clear hb1 k0 k1 kf
    go_wp2_with fail
    refine (collected_c _ _ f _ (FlashRd.below HR.out W1.out) hs ok.out (fun x hx => (ok.out.ers x hx).2)).mono ?_
    rintro e w2 ⟨y0, y1, rfl, O2, hb2⟩
    obtain ⟨A1, c1, A2, c2, rfl, rfl⟩ := flashRd_lens O2.rd
    have N1 := Loc.carryB M1 (fun h => by ((repeat (first | with_reducible exact h | with_reducible refine Loc.drew ?_ | with_reducible refine Loc.drewN ?_ _ | with_reducible refine Loc.alloc ?_ _)); done)) hb2
    obtain ⟨n0, n1, nf⟩ := N1.two
    have W2 : Hid (Below w.heap.size w w2) := Lib.hid (Below.next (W := w) W1.out hb2)
    have H2 := Lib.hid O2
    have hz2 := hb2.size
    clear hb2 O2 m0 m1 mf
    go_wp2
    refine bodyPost_ret (v := .tuple #[.agg #[.slice A1 (collectF f).pages.length c1, .slice A2 (collectF f).erases.length c2], .bool (collectOk f)]) (by simp [results, Try.results40, go_sem, *]; done) rfl ⟨_, _, by rw [HC.out.2], ?_, ?_⟩
    · rw [HC.out.1]
      exact FlashOwn.mono (B := w1.heap.size) (C := w2.heap.size) (by repeat (first | with_reducible exact H2.out | with_reducible refine FlashOwn.drew ?_ | with_reducible refine FlashOwn.drewN ?_ _ | with_reducible refine FlashOwn.alloc ?_ _ | (with_reducible refine FlashOwn.below ?_ (by assumption)) | ((with_reducible refine FlashOwn.other ?_ ?_ _); rotate_left; (focus (first | omega | (simp; omega) | (simp; done)))))) (by omega) (by simp)
    · exact (by repeat (first | with_reducible exact W2.out | with_reducible exact Below.refl _ _ | with_reducible refine below_drewN ?_ _ | with_reducible refine Below.drew ?_ | with_reducible refine Below.alloc ?_ ?_ _ | with_reducible refine Below.setCell ?_ ?_ _ | (with_reducible refine Below.next ?_ (by assumption)) | ((with_reducible refine Below.far' (by assumption) ?_ ?_ ?_); (focus (first | omega | (simp; omega) | (simp; done))); (focus (first | omega | (simp; omega) | (simp; done)))) | omega | (focus (simp; omega)) | (focus (simp; done))))
set_option maxHeartbeats 4000000 in
theorem specCollect_c (x0 x1 : Value) (f : Fl) (w : World) (h : FlashRd w [x0, x1] f) (hs : sizeFlash f ≤ 1099511627776) :
    Calls Try.prog 42 #[.agg #[x0, x1]] w (MadeFlashB (collectB f) (collectBOk f) w) := by
  obtain ⟨A, c, A', c', rfl, rfl⟩ := flashRd_lens h
  have HR := Lib.hid h
  have L0 := Loc.new w [.slice A f.pages.length c, .slice A' f.erases.length c'] 30
  have L1 := Loc.newAt (w.alloc (.cells #[.slice A f.pages.length c, .slice A' f.erases.length c'] 30)) [.slice none 0 0, .slice none 0 0] 30 (b := w.heap.size + 1) (by simp)
  obtain ⟨k0, k1, kf⟩ := Loc.two (Loc.alloc L0 (.cells #[.slice none 0 0, .slice none 0 0] 30))
  cases hv : flashB f
  · have HV := Lib.hid hv
    have HC := Lib.hid (collectB_no hv)
    clear hv
    go_enter Try.func42, Try.ntmps42
    go_wp2_with fail
    refine (specFlash_c _ _ f _ (FlashRd.below HR.out (by repeat (first | with_reducible exact Below.refl _ _ | with_reducible refine below_drewN ?_ _ | with_reducible refine Below.drew ?_ | with_reducible refine Below.alloc ?_ ?_ _ | with_reducible refine Below.setCell ?_ ?_ _ | omega | (focus (simp; omega)) | (focus (simp; done))))) hs).mono ?_
    rw [HV.out]
    rintro e w1 ⟨rfl, hb1⟩
    have M1 := Loc.carryB L1 (fun h => by ((repeat (first | with_reducible exact h | with_reducible refine Loc.drew ?_ | with_reducible refine Loc.drewN ?_ _ | with_reducible refine Loc.alloc ?_ _)); done)) hb1
    obtain ⟨m0, m1, mf⟩ := M1.two
    go_wp2
    refine bodyPost_ret (v := .tuple #[.agg #[.slice none 0 0, .slice none 0 0], .bool false]) (by simp [results, Try.results42, go_sem, *]; done) rfl ⟨_, _, by rw [HC.out.2], ?_, ?_⟩
    · rw [HC.out.1]; exact flashOwn_nil0 _ _ _
    · exact (by repeat (first | with_reducible exact Below.refl _ _ | with_reducible assumption | with_reducible refine below_drewN ?_ _ | with_reducible refine Below.drew ?_ | with_reducible refine Below.alloc ?_ ?_ _ | with_reducible refine Below.setCell ?_ ?_ _ | (with_reducible refine Below.next ?_ (by assumption)) | omega | (focus (simp; omega)) | (focus (simp; done))))
  · have HV := Lib.hid hv
    have HC := Lib.hid (collectB_yes hv)
    have ok := Lib.hid (flashB_iff.1 hv)
    clear hv
    go_enter Try.func42, Try.ntmps42
    go_wp2_with fail
    refine (specFlash_c _ _ f _ (FlashRd.below HR.out (by repeat (first | with_reducible exact Below.refl _ _ | with_reducible refine below_drewN ?_ _ | with_reducible refine Below.drew ?_ | with_reducible refine Below.alloc ?_ ?_ _ | with_reducible refine Below.setCell ?_ ?_ _ | omega | (focus (simp; omega)) | (focus (simp; done))))) hs).mono ?_
    rw [HV.out]
    rintro e w1 ⟨rfl, hb1⟩
    have M0 := Loc.carryB L0 (fun h => by ((repeat (first | with_reducible exact h | with_reducible refine Loc.drew ?_ | with_reducible refine Loc.drewN ?_ _ | with_reducible refine Loc.alloc ?_ _)); done)) hb1
    have M1 := Loc.carryB L1 (fun h => by ((repeat (first | with_reducible exact h | with_reducible refine Loc.drew ?_ | with_reducible refine Loc.drewN ?_ _ | with_reducible refine Loc.alloc ?_ _)); done)) hb1
    obtain ⟨m0, m1, mf⟩ := M0.two
    have W1 : Hid (Below w.heap.size w w1) := Lib.hid (Below.next (W := w) (by repeat (first | with_reducible exact Below.refl _ _ | with_reducible refine below_drewN ?_ _ | with_reducible refine Below.drew ?_ | with_reducible refine Below.alloc ?_ ?_ _ | with_reducible refine Below.setCell ?_ ?_ _ | omega | (focus (simp; omega)) | (focus (simp; done)))) hb1)
    have zM1 := M1.lt
    clear hb1 k0 k1 kf
    go_wp2_with fail
    refine (copyFlash_c _ _ f _ (FlashRd.below HR.out W1.out) hs).mono ?_
    rintro e w2 ⟨y0, y1, rfl, O2, hb2⟩
    obtain ⟨A1, c1, A2, c2, rfl, rfl⟩ := flashRd_lens O2.rd
    have N1 := Loc.carryB M1 (fun h => by ((repeat (first | with_reducible exact h | with_reducible refine Loc.drew ?_ | with_reducible refine Loc.drewN ?_ _ | with_reducible refine Loc.alloc ?_ _)); done)) hb2
    have LX := Loc.newAt w2 [.slice A1 f.pages.length c1, .slice A2 f.erases.length c2] 30 (b := w2.heap.size) rfl
    have W2 : Hid (Below w.heap.size w w2) := Lib.hid (Below.next (W := w) W1.out hb2)
    have H2 := Lib.hid O2
    have hz2 := hb2.size
    clear hb2 O2 m0 m1 mf
    go_wp2_with fail
    refine (l20Collect_c w2.heap.size A1 A2 c1 c2 f w1.heap.size w2.heap.size _ LX (FlashOwn.alloc H2.out _) (.inr (Nat.le_refl _)) (by first | omega | (focus (simp; omega)) | (focus (simp; done))) hs ok.out (fun x hx => (ok.out.ers x hx).2)).mono ?_
    rintro e w3 ⟨rfl, O3, gi3⟩
    have P1 := Loc.carryG N1 (fun h => by ((repeat (first | with_reducible exact h | with_reducible refine Loc.drew ?_ | with_reducible refine Loc.drewN ?_ _ | with_reducible refine Loc.alloc ?_ _)); done)) gi3 (by first | omega | (simp; omega) | (simp; done))
    have PX := Loc.carryG LX (fun h => by ((repeat (first | with_reducible exact h | with_reducible refine Loc.drew ?_ | with_reducible refine Loc.drewN ?_ _ | with_reducible refine Loc.alloc ?_ _)); done)) gi3 (by first | omega | (simp; omega) | (simp; done))
    obtain ⟨p0, p1, pf⟩ := P1.two
    obtain ⟨q0, q1, qf⟩ := PX.two
    have W3 : Hid (Below w.heap.size w w3) := Lib.hid (Below.gin (D := w.heap.size) (a := w) (by repeat (first | with_reducible exact W2.out | with_reducible exact Below.refl _ _ | with_reducible refine below_drewN ?_ _ | with_reducible refine Below.drew ?_ | with_reducible refine Below.alloc ?_ ?_ _ | with_reducible refine Below.setCell ?_ ?_ _ | (with_reducible refine Below.next ?_ (by assumption)) | ((with_reducible refine Below.far' (by assumption) ?_ ?_ ?_); (focus (first | omega | (simp; omega) | (simp; done))); (focus (first | omega | (simp; omega) | (simp; done)))) | omega | (focus (simp; omega)) | (focus (simp; done)))) gi3 (by first | omega | (simp; omega) | (simp; done)) (by first | omega | (simp; omega) | (simp; done)))
    have H3 := Lib.hid O3
    have hz3 := gi3.size
    simp at hz3
    clear gi3 O3
    go_wp2
    refine bodyPost_ret (v := .tuple #[.agg #[.slice A1 f.pages.length c1, .slice A2 f.erases.length c2], .bool (collectOk f)]) (by simp [results, Try.results42, go_sem, *]; done) rfl ⟨_, _, by rw [HC.out.2], ?_, ?_⟩
    · rw [HC.out.1]
      exact FlashOwn.mono (B := w1.heap.size) (C := w2.heap.size) (by repeat (first | with_reducible exact H3.out | with_reducible refine FlashOwn.drew ?_ | with_reducible refine FlashOwn.drewN ?_ _ | with_reducible refine FlashOwn.alloc ?_ _ | (with_reducible refine FlashOwn.below ?_ (by assumption)) | ((with_reducible refine FlashOwn.other ?_ ?_ _); rotate_left; (focus (first | omega | (simp; omega) | (simp; done)))))) (by omega) (by simp; omega)
    · exact (by repeat (first | with_reducible exact W3.out | with_reducible exact Below.refl _ _ | with_reducible refine below_drewN ?_ _ | with_reducible refine Below.drew ?_ | with_reducible refine Below.alloc ?_ ?_ _ | with_reducible refine Below.setCell ?_ ?_ _ | (with_reducible refine Below.next ?_ (by assumption)) | ((with_reducible refine Below.far' (by assumption) ?_ ?_ ?_); (focus (first | omega | (simp; omega) | (simp; done))); (focus (first | omega | (simp; omega) | (simp; done)))) | omega | (focus (simp; omega)) | (focus (simp; done))))
end Go.Proofs.Ytnnanknljpkdeaa
