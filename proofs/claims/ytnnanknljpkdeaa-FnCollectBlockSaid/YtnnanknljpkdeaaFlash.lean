/-
  Flash memories: helpers and validity. Conditions: lengths at most 2^40.
-/
import Derived.Test.YtnnanknljpkdeaaBase
import Derived.Test.YtnnanknljpkdeaaNum
import Derived.Test.YtnnanknljpkdeaaInts
import Derived.Test.YtnnanknljpkdeaaApp
import Derived.Test.YtnnanknljpkdeaaIntsW
import Derived.Test.YtnnanknljpkdeaaLib
import Derived.Test.YtnnanknljpkdeaaSpares
import Derived.Test.YtnnanknljpkdeaaOwn
import Derived.Test.YtnnanknljpkdeaaPage
namespace Go.Proofs.Ytnnanknljpkdeaa
open Go.RowKit
structure Fl where
  pages : List Pg
  erases : List Int
deriving DecidableEq
def FlashRd (w : World) (xs : List Value) (t : Fl) : Prop := ∃ u v, xs = [u, v] ∧ SRd encPageS w u t.pages ∧ SRd encIntS w v t.erases
def FlashOwn (B : Nat) (w : World) (C : Nat) (xs : List Value) (t : Fl) : Prop := ∃ u v, xs = [u, v] ∧ SOwn encPageS tyPageS B w C u t.pages ∧ SOwn encIntS tyIntS B w C v t.erases ∧ Apart u v
def sizeFlash (t : Fl) : Nat := t.pages.length + t.erases.length
def cntFlash (t : Fl) : Nat := 2 * t.pages.length + 1 * t.erases.length
theorem cntFlash_le (t : Fl) : cntFlash t ≤ 3 * sizeFlash t := by unfold cntFlash sizeFlash; omega
def markedFlash (t : Fl) (k : Int) : Fl := ⟨marksPageS t.pages.length k, marksIntS t.erases.length (k + 2 * t.pages.length)⟩
section
variable {w w' : World} {xs : List Value} {t : Fl} {B C : Nat}
theorem FlashRd.below (h : FlashRd w xs t) (hb : Below w.heap.size w w') : FlashRd w' xs t := by
  obtain ⟨u, v, h1, h2, h3⟩ := h
  exact ⟨u, v, h1, h2.below hb, h3.below hb⟩
theorem FlashRd.gin {w0 : World} (h : FlashRd w xs t) (h0 : FlashRd w0 xs t) (hg : GIn B C w w') (hB : w0.heap.size ≤ B) : FlashRd w' xs t := by
  obtain ⟨u, v, h1, h2, h3⟩ := h
  obtain ⟨u', v', h1', h2', h3'⟩ := h0
  rw [h1] at h1'
  simp only [List.cons.injEq, and_true] at h1'
  obtain ⟨rfl, rfl⟩ := h1'
  exact ⟨u, v, h1, h2.gin h2' hg hB, h3.gin h3' hg hB⟩
theorem FlashOwn.rd (h : FlashOwn B w C xs t) : FlashRd w xs t := by
  obtain ⟨u, v, h1, h2, h3, _⟩ := h
  exact ⟨u, v, h1, h2.rd, h3.rd⟩
theorem FlashOwn.one (h : FlashOwn B w C xs t) : ∀ v ∈ xs, v.oneCell' = true := by
  obtain ⟨u, v, rfl, ⟨A, c, g, rfl, _⟩, ⟨A', c', g', rfl, _⟩, _⟩ := h
  simp [Value.oneCell']
theorem FlashRd.one (h : FlashRd w xs t) : ∀ v ∈ xs, v.oneCell' = true := by
  obtain ⟨u, v, rfl, ⟨A, c, rfl, _⟩, ⟨A', c', rfl, _⟩⟩ := h
  simp [Value.oneCell']
theorem FlashOwn.below (h : FlashOwn B w C xs t) (hb : Below w.heap.size w w') : FlashOwn B w' C xs t := by
  obtain ⟨u, v, h1, h2, h3, h4⟩ := h
  exact ⟨u, v, h1, h2.below hb, h3.below hb, h4⟩
theorem FlashOwn.gin {B' C' : Nat} (h : FlashOwn B w C xs t) (hg : GIn B' C' w w') (hd : C ≤ B' ∨ C' ≤ B) : FlashOwn B w' C xs t := by
  obtain ⟨u, v, h1, h2, h3, h4⟩ := h
  exact ⟨u, v, h1, h2.gin hg hd, h3.gin hg hd, h4⟩
end
def MadeFlash (t : Fl) (w : World) (en : Ending) (w' : World) : Prop := ∃ y0 y1, en = .returned (.agg #[y0, y1]) ∧ FlashOwn w.heap.size w' w'.heap.size [y0, y1] t ∧ Below w.heap.size w w'
def MadeFlashB (t : Fl) (ok : Bool) (w : World) (en : Ending) (w' : World) : Prop := ∃ y0 y1, en = .returned (.tuple #[.agg #[y0, y1], .bool ok]) ∧ FlashOwn w.heap.size w' w'.heap.size [y0, y1] t ∧ Below w.heap.size w w'
set_option maxHeartbeats 1000000 in
theorem szFlash_bigc (x0 x1 : Value) (t : Fl) (k : Int) (w : World) (h : FlashRd w [x0, x1] t) (hk : 0 ≤ k ∧ k ≤ 1048576) (hs : k < sizeFlash t) :
    Calls Try.prog 16 #[.agg #[x0, x1], .int .i64 k] w fun e w' => e = .returned (.int .i64 (-1)) ∧ Below w.heap.size w w' := by
  obtain ⟨u, v, h1, h2, h3⟩ := h
  simp only [List.cons.injEq, and_true] at h1
  obtain ⟨rfl, rfl⟩ := h1
  unfold sizeFlash at hs
  obtain ⟨hk0, hk1⟩ := hk
  have L0 := Loc.new w [x0, x1] 25
  by_cases hb : k < t.pages.length
  · go_enter Try.func16, Try.ntmps16
    go_wp2_with fail
    refine (szPageS_bigw x0 t.pages k _ (h2.below (by repeat (first | with_reducible exact Below.refl _ _ | with_reducible refine below_drewN ?_ _ | with_reducible refine Below.drew ?_ | with_reducible refine Below.alloc ?_ ?_ _ | with_reducible refine Below.setCell ?_ ?_ _ | omega | (focus (simp; omega)) | (focus (simp; done))))) hk0 hk1 hb).mono ?_
    rintro e w1 ⟨rfl, hb1⟩
    go_wp2
    go_ret
    exact ⟨rfl, (by repeat (first | with_reducible exact Below.refl _ _ | with_reducible assumption | with_reducible refine below_drewN ?_ _ | with_reducible refine Below.drew ?_ | with_reducible refine Below.alloc ?_ ?_ _ | with_reducible refine Below.setCell ?_ ?_ _ | (with_reducible refine Below.next ?_ (by assumption)) | omega | (focus (simp; omega)) | (focus (simp; done))))⟩
  · go_enter Try.func16, Try.ntmps16
    go_wp2_with fail
    refine (szPageS_okw x0 t.pages k _ (h2.below (by repeat (first | with_reducible exact Below.refl _ _ | with_reducible refine below_drewN ?_ _ | with_reducible refine Below.drew ?_ | with_reducible refine Below.alloc ?_ ?_ _ | with_reducible refine Below.setCell ?_ ?_ _ | omega | (focus (simp; omega)) | (focus (simp; done))))) hk0 hk1 (by omega)).mono ?_
    rintro e w1 ⟨rfl, hb1⟩
    have M0 := Loc.carryB L0 (fun h => by ((repeat (first | with_reducible exact h | with_reducible refine Loc.drew ?_ | with_reducible refine Loc.drewN ?_ _ | with_reducible refine Loc.alloc ?_ _)); done)) hb1
    obtain ⟨k0, k1, kf⟩ := M0.two
    go_wp2_with fail
    refine (szIntS_bigw x1 t.erases (k - t.pages.length) _ (h3.below (Below.next (by repeat (first | with_reducible exact Below.refl _ _ | with_reducible refine below_drewN ?_ _ | with_reducible refine Below.drew ?_ | with_reducible refine Below.alloc ?_ ?_ _ | with_reducible refine Below.setCell ?_ ?_ _ | omega | (focus (simp; omega)) | (focus (simp; done)))) hb1)) (by omega) (by omega) (by omega)).mono ?_
    rintro e w2 ⟨rfl, hb2⟩
    go_wp2
    go_ret
    exact ⟨rfl, (by repeat (first | with_reducible exact Below.refl _ _ | with_reducible assumption | with_reducible refine below_drewN ?_ _ | with_reducible refine Below.drew ?_ | with_reducible refine Below.alloc ?_ ?_ _ | with_reducible refine Below.setCell ?_ ?_ _ | (with_reducible refine Below.next ?_ (by assumption)) | omega | (focus (simp; omega)) | (focus (simp; done))))⟩
set_option maxHeartbeats 1000000 in
theorem szFlash_okc (x0 x1 : Value) (t : Fl) (k : Int) (w : World) (h : FlashRd w [x0, x1] t) (hk : 0 ≤ k ∧ k ≤ 1048576) (hs : (sizeFlash t : Int) ≤ k) :
    Calls Try.prog 16 #[.agg #[x0, x1], .int .i64 k] w fun e w' => e = .returned (.int .i64 (k - sizeFlash t)) ∧ Below w.heap.size w w' := by
  obtain ⟨u, v, h1, h2, h3⟩ := h
  simp only [List.cons.injEq, and_true] at h1
  obtain ⟨rfl, rfl⟩ := h1
  unfold sizeFlash at hs ⊢
  obtain ⟨hk0, hk1⟩ := hk
  have L0 := Loc.new w [x0, x1] 25
  go_enter Try.func16, Try.ntmps16
  go_wp2_with fail
  refine (szPageS_okw x0 t.pages k _ (h2.below (by repeat (first | with_reducible exact Below.refl _ _ | with_reducible refine below_drewN ?_ _ | with_reducible refine Below.drew ?_ | with_reducible refine Below.alloc ?_ ?_ _ | with_reducible refine Below.setCell ?_ ?_ _ | omega | (focus (simp; omega)) | (focus (simp; done))))) hk0 hk1 (by omega)).mono ?_
  rintro e w1 ⟨rfl, hb1⟩
  have M0 := Loc.carryB L0 (fun h => by ((repeat (first | with_reducible exact h | with_reducible refine Loc.drew ?_ | with_reducible refine Loc.drewN ?_ _ | with_reducible refine Loc.alloc ?_ _)); done)) hb1
  obtain ⟨k0, k1, kf⟩ := M0.two
  go_wp2_with fail
  refine (szIntS_okw x1 t.erases (k - t.pages.length) _ (h3.below (Below.next (by repeat (first | with_reducible exact Below.refl _ _ | with_reducible refine below_drewN ?_ _ | with_reducible refine Below.drew ?_ | with_reducible refine Below.alloc ?_ ?_ _ | with_reducible refine Below.setCell ?_ ?_ _ | omega | (focus (simp; omega)) | (focus (simp; done)))) hb1)) (by omega) (by omega) (by omega)).mono ?_
  rintro e w2 ⟨rfl, hb2⟩
  go_wp2
  go_ret
  exact ⟨ret_int (by omega), (by repeat (first | with_reducible exact Below.refl _ _ | with_reducible assumption | with_reducible refine below_drewN ?_ _ | with_reducible refine Below.drew ?_ | with_reducible refine Below.alloc ?_ ?_ _ | with_reducible refine Below.setCell ?_ ?_ _ | (with_reducible refine Below.next ?_ (by assumption)) | omega | (focus (simp; omega)) | (focus (simp; done))))⟩
set_option maxHeartbeats 2000000 in
theorem toFlash_c (x0 x1 : Value) (t : Fl) (w : World) (h : FlashRd w [x0, x1] t) (hs : sizeFlash t ≤ 1099511627776) :
    Calls Try.prog 18 #[.agg #[x0, x1]] w (MadeFlash t w) := by
  obtain ⟨u, v, h1, h2, h3⟩ := h
  simp only [List.cons.injEq, and_true] at h1
  obtain ⟨rfl, rfl⟩ := h1
  unfold sizeFlash at hs
  have L0 := Loc.new w [x0, x1] 25
  have L1 := Loc.newAt (w.alloc (.cells #[x0, x1] 25)) [.slice none 0 0, .slice none 0 0] 30 (b := w.heap.size + 1) (by simp)
  have L2 := Loc.newAt ((w.alloc (.cells #[x0, x1] 25)).alloc (.cells #[.slice none 0 0, .slice none 0 0] 30)) [.slice none 0 0, .slice none 0 0] 30 (b := w.heap.size + 1 + 1) (by simp)
  go_enter Try.func18, Try.ntmps18
  go_wp2_with fail
  refine (toPageS_w x0 t.pages _ (h2.below (by repeat (first | with_reducible exact Below.refl _ _ | with_reducible refine below_drewN ?_ _ | with_reducible refine Below.drew ?_ | with_reducible refine Below.alloc ?_ ?_ _ | with_reducible refine Below.setCell ?_ ?_ _ | omega | (focus (simp; omega)) | (focus (simp; done))))) (by omega)).mono ?_
  rintro e w1 ⟨y0, rfl, o1, hb1⟩
  obtain ⟨A1, c1, g1, rfl, _, _⟩ := id o1
  have M0 := Loc.carryB L0 (fun h => by ((repeat (first | with_reducible exact h | with_reducible refine Loc.drew ?_ | with_reducible refine Loc.drewN ?_ _ | with_reducible refine Loc.alloc ?_ _)); done)) hb1
  have M1 := Loc.carryB L1 (fun h => by ((repeat (first | with_reducible exact h | with_reducible refine Loc.drew ?_ | with_reducible refine Loc.drewN ?_ _ | with_reducible refine Loc.alloc ?_ _)); done)) hb1
  have M2 := Loc.carryB L2 (fun h => by ((repeat (first | with_reducible exact h | with_reducible refine Loc.drew ?_ | with_reducible refine Loc.drewN ?_ _ | with_reducible refine Loc.alloc ?_ _)); done)) hb1
  obtain ⟨k0, k1, kf⟩ := M0.two
  obtain ⟨l0, l1, lf⟩ := M1.two
  obtain ⟨m0, m1, mf⟩ := M2.two
  have z2 := M2.lt
  have W1 : Below w.heap.size w w1 := Below.next (by repeat (first | with_reducible exact Below.refl _ _ | with_reducible refine below_drewN ?_ _ | with_reducible refine Below.drew ?_ | with_reducible refine Below.alloc ?_ ?_ _ | with_reducible refine Below.setCell ?_ ?_ _ | omega | (focus (simp; omega)) | (focus (simp; done)))) hb1
  have W2 : Below w.heap.size w (w1.setCell ⟨w.heap.size + 1 + 1, 0, none⟩ (.slice A1 t.pages.length c1)) := Below.setCell W1 (by first | omega | (focus (simp; omega)) | (focus (simp; done))) _
  go_wp2_with fail
  refine (toIntS_w x1 t.erases _ (h3.below W2) (by omega)).mono ?_
  rintro e w2 ⟨y1, rfl, o2, hb2⟩
  obtain ⟨A2, c2, g2, rfl, _, _⟩ := id o2
  have M2' : Loc (w1.setCell ⟨w.heap.size + 1 + 1, 0, none⟩ (.slice A1 t.pages.length c1)) (w.heap.size + 1 + 1) [.slice A1 t.pages.length c1, .slice none 0 0] := by simpa using M2.set 0 (.slice A1 t.pages.length c1)
  have N2 := M2'.below hb2
  have N1 := Loc.below (Loc.other' (p := ⟨w.heap.size + 1 + 1, 0, none⟩) (by simp) M1 (.slice A1 t.pages.length c1)) hb2
  obtain ⟨p0, p1, pf⟩ := N2.two
  obtain ⟨q0, q1, qf⟩ := N1.two
  have z3 := N2.lt
  have hz2 := hb2.size
  simp at hz2
  have ho1 : SOwn encPageS tyPageS (w.heap.size + 1 + 1 + 1) w2 w2.heap.size (.slice A1 t.pages.length c1) t.pages := by
    have a1 := (o1.other (p := ⟨w.heap.size + 1 + 1, 0, none⟩) (by first | omega | (focus (simp; omega)) | (focus (simp; done))) (.slice A1 t.pages.length c1)).below hb2
    exact a1.mono (by first | omega | (focus (simp; omega)) | (focus (simp; done))) (by omega)
  have hap : Apart (.slice A1 t.pages.length c1) (.slice A2 t.erases.length c2) := by
    obtain ⟨A, c, g, he, hr, hg⟩ := o1
    obtain ⟨A', c', g', he', hr', hg'⟩ := o2
    cases he
    cases he'
    intro a n c a' n' c' h1 h2
    cases h1
    cases h2
    rw [hr.addr, hr'.addr]
    simp at hg hg' ⊢
    omega
  have ho2 := o2
  simp only [World.size_setCell] at ho2
  have HA := Lib.hid hap
  have H1 := Lib.hid ho1
  have H2 := Lib.hid ho2
  clear hap ho1 ho2 o1 o2
  go_wp2
  refine bodyPost_ret (v := .agg #[.slice A1 t.pages.length c1, .slice A2 t.erases.length c2]) (by simp [results, Try.results18, go_sem, *]) rfl ⟨.slice A1 t.pages.length c1, .slice A2 t.erases.length c2, rfl, ⟨.slice A1 t.pages.length c1, .slice A2 t.erases.length c2, rfl, ?_, ?_, HA.out⟩, ?_⟩
  · refine SOwn.mono (B := w.heap.size + 1 + 1 + 1) (C := w2.heap.size) (by repeat (first | with_reducible exact H1.out | with_reducible refine SOwn.drew ?_ | with_reducible refine SOwn.drewN ?_ _ | with_reducible refine SOwn.alloc ?_ _ | (with_reducible refine SOwn.below ?_ (by assumption)) | ((with_reducible refine SOwn.other ?_ ?_ _); rotate_left; (focus (first | omega | (simp; omega) | (simp; done)))))) (by omega) (by first | omega | (focus (simp; omega)) | (focus (simp; done)))
  · refine SOwn.mono (B := w1.heap.size) (C := w2.heap.size) (by repeat (first | with_reducible exact H2.out | with_reducible refine SOwn.drew ?_ | with_reducible refine SOwn.drewN ?_ _ | with_reducible refine SOwn.alloc ?_ _ | (with_reducible refine SOwn.below ?_ (by assumption)) | ((with_reducible refine SOwn.other ?_ ?_ _); rotate_left; (focus (first | omega | (simp; omega) | (simp; done)))))) (by omega) (by first | omega | (focus (simp; omega)) | (focus (simp; done)))
  · exact (by repeat (first | with_reducible exact Below.refl _ _ | with_reducible assumption | with_reducible refine below_drewN ?_ _ | with_reducible refine Below.drew ?_ | with_reducible refine Below.alloc ?_ ?_ _ | with_reducible refine Below.setCell ?_ ?_ _ | (with_reducible refine Below.next ?_ (by assumption)) | omega | (focus (simp; omega)) | (focus (simp; done))))
set_option maxHeartbeats 1000000 in
theorem eqFlash_c (x0 x1 y0 y1 : Value) (s t : Fl) (w : World) (h : FlashRd w [x0, x1] s) (k : FlashRd w [y0, y1] t) (hs : sizeFlash s ≤ 1099511627776) (ht : sizeFlash t ≤ 1099511627776) :
    Calls Try.prog 20 #[.agg #[x0, x1], .agg #[y0, y1]] w fun e w' => e = .returned (.bool (decide (s = t))) ∧ Below w.heap.size w w' := by
  obtain ⟨u, v, h1, h2, h3⟩ := h
  simp only [List.cons.injEq, and_true] at h1
  obtain ⟨rfl, rfl⟩ := h1
  obtain ⟨u, v, h1, k2, k3⟩ := k
  simp only [List.cons.injEq, and_true] at h1
  obtain ⟨rfl, rfl⟩ := h1
  unfold sizeFlash at hs ht
  have L0 := Loc.new w [x0, x1] 30
  have L1 := Loc.newAt (w.alloc (.cells #[x0, x1] 30)) [y0, y1] 30 (b := w.heap.size + 1) (by simp)
  obtain ⟨s1, s2⟩ := s
  obtain ⟨t1, t2⟩ := t
  simp only at h2 h3 k2 k3 hs ht
  cases e1 : decide (s1 = t1)
  · have E1 := Lib.hid e1
    clear e1
    go_enter Try.func20, Try.ntmps20
    go_wp2_with fail
    refine (eqPageS_w x0 y0 s1 t1 _ (h2.below (by repeat (first | with_reducible exact Below.refl _ _ | with_reducible refine below_drewN ?_ _ | with_reducible refine Below.drew ?_ | with_reducible refine Below.alloc ?_ ?_ _ | with_reducible refine Below.setCell ?_ ?_ _ | omega | (focus (simp; omega)) | (focus (simp; done))))) (k2.below (by repeat (first | with_reducible exact Below.refl _ _ | with_reducible refine below_drewN ?_ _ | with_reducible refine Below.drew ?_ | with_reducible refine Below.alloc ?_ ?_ _ | with_reducible refine Below.setCell ?_ ?_ _ | omega | (focus (simp; omega)) | (focus (simp; done))))) (by omega) (by omega)).mono ?_
    rw [E1.out]
    rintro e w1 ⟨rfl, hb1⟩
    go_wp2
    go_ret
    refine ⟨ret_bool ?_, (by repeat (first | with_reducible exact Below.refl _ _ | with_reducible assumption | with_reducible refine below_drewN ?_ _ | with_reducible refine Below.drew ?_ | with_reducible refine Below.alloc ?_ ?_ _ | with_reducible refine Below.setCell ?_ ?_ _ | (with_reducible refine Below.next ?_ (by assumption)) | omega | (focus (simp; omega)) | (focus (simp; done))))⟩
    have := E1.out
    simp at this ⊢
    intro h; exact absurd h this
  · have E1 := Lib.hid e1
    clear e1
    go_enter Try.func20, Try.ntmps20
    go_wp2_with fail
    refine (eqPageS_w x0 y0 s1 t1 _ (h2.below (by repeat (first | with_reducible exact Below.refl _ _ | with_reducible refine below_drewN ?_ _ | with_reducible refine Below.drew ?_ | with_reducible refine Below.alloc ?_ ?_ _ | with_reducible refine Below.setCell ?_ ?_ _ | omega | (focus (simp; omega)) | (focus (simp; done))))) (k2.below (by repeat (first | with_reducible exact Below.refl _ _ | with_reducible refine below_drewN ?_ _ | with_reducible refine Below.drew ?_ | with_reducible refine Below.alloc ?_ ?_ _ | with_reducible refine Below.setCell ?_ ?_ _ | omega | (focus (simp; omega)) | (focus (simp; done))))) (by omega) (by omega)).mono ?_
    rw [E1.out]
    rintro e w1 ⟨rfl, hb1⟩
    have M0 := Loc.carryB L0 (fun h => by ((repeat (first | with_reducible exact h | with_reducible refine Loc.drew ?_ | with_reducible refine Loc.drewN ?_ _ | with_reducible refine Loc.alloc ?_ _)); done)) hb1
    have M1 := Loc.carryB L1 (fun h => by ((repeat (first | with_reducible exact h | with_reducible refine Loc.drew ?_ | with_reducible refine Loc.drewN ?_ _ | with_reducible refine Loc.alloc ?_ _)); done)) hb1
    obtain ⟨k0, k1, kf⟩ := M0.two
    obtain ⟨l0, l1, lf⟩ := M1.two
    go_wp2_with fail
    refine (eqIntS_w x1 y1 s2 t2 _ (h3.below (Below.next (by repeat (first | with_reducible exact Below.refl _ _ | with_reducible refine below_drewN ?_ _ | with_reducible refine Below.drew ?_ | with_reducible refine Below.alloc ?_ ?_ _ | with_reducible refine Below.setCell ?_ ?_ _ | omega | (focus (simp; omega)) | (focus (simp; done)))) hb1)) (k3.below (Below.next (by repeat (first | with_reducible exact Below.refl _ _ | with_reducible refine below_drewN ?_ _ | with_reducible refine Below.drew ?_ | with_reducible refine Below.alloc ?_ ?_ _ | with_reducible refine Below.setCell ?_ ?_ _ | omega | (focus (simp; omega)) | (focus (simp; done)))) hb1)) (by omega) (by omega)).mono ?_
    rintro e w2 ⟨rfl, hb2⟩
    go_wp2
    all_goals go_ret
    all_goals
      refine ⟨ret_bool ?_, (by repeat (first | with_reducible exact Below.refl _ _ | with_reducible assumption | with_reducible refine below_drewN ?_ _ | with_reducible refine Below.drew ?_ | with_reducible refine Below.alloc ?_ ?_ _ | with_reducible refine Below.setCell ?_ ?_ _ | (with_reducible refine Below.next ?_ (by assumption)) | omega | (focus (simp; omega)) | (focus (simp; done))))⟩
      have := E1.out
      simp at this
      simp_all
set_option maxHeartbeats 1000000 in
theorem markFlash_c (x0 x1 : Value) (t : Fl) (k : Int) (B C : Nat) (w : World) (h : FlashOwn B w C [x0, x1] t) (hC : C ≤ w.heap.size) (hs : sizeFlash t ≤ 34359738368) (hk0 : 0 ≤ k) (hk : k ≤ 1048576) :
    Calls Try.prog 23 #[.agg #[x0, x1], .int .i64 k] w fun e w' => e = .returned (.int .i64 (k + cntFlash t)) ∧ FlashOwn B w' C [x0, x1] (markedFlash t k) ∧ GIn B C w w' := by
  obtain ⟨u, v, h1, h2, h3, hap⟩ := h
  simp only [List.cons.injEq, and_true] at h1
  obtain ⟨rfl, rfl⟩ := h1
  unfold sizeFlash at hs
  have L0 := Loc.new w [x0, x1] 30
  go_enter Try.func23, Try.ntmps23
  go_wp2_with fail
  refine (markPageS_w x0 t.pages k B C _ (h2.alloc _) (by omega) hk0 (by omega)).mono ?_
  rintro e w1 ⟨rfl, o1, gi1, keep1⟩
  have h31 := Lib.hid (keep1 _ _ _ x1 _ hap (h3.alloc _))
  have M0 := Loc.gin L0 gi1 (by omega)
  obtain ⟨k0, k1, kf⟩ := M0.two
  have O1 := Lib.hid o1
  clear keep1 o1
  go_wp2_with fail
  refine (calls_eq (markIntS_w x1 t.erases (k + 2 * t.pages.length) B C _ h31.out (by omega) (by omega) (by omega)) (by simp)).mono ?_
  rintro e w2 ⟨rfl, o2, gi2, keep2⟩
  have o12 := Lib.hid (keep2 _ _ _ x0 _ hap.symm O1.out)
  have O2 := Lib.hid o2
  clear keep2 o2
  go_wp2
  go_ret
  refine ⟨ret_int ?_, ⟨x0, x1, rfl, o12.out, O2.out, hap⟩, ?_⟩
  · simp [cntFlash]; omega
  · exact GIn.trans (GIn.trans (GIn.of_below ((Below.refl _ _).alloc (Nat.le_refl _) _)) gi1) gi2
set_option maxHeartbeats 1000000 in
theorem heldFlash_c (x0 x1 : Value) (t : Fl) (k : Int) (w : World) (h : FlashRd w [x0, x1] (markedFlash t k)) (hs : sizeFlash t ≤ 34359738368) (hk0 : 0 ≤ k) (hk : k ≤ 1048576) :
    Calls Try.prog 24 #[.agg #[x0, x1], .int .i64 k] w fun e w' => e = .returned (.int .i64 (k + cntFlash t)) ∧ Below w.heap.size w w' := by
  obtain ⟨u, v, h1, h2, h3⟩ := h
  simp only [List.cons.injEq, and_true] at h1
  obtain ⟨rfl, rfl⟩ := h1
  unfold sizeFlash at hs
  unfold markedFlash at h2 h3
  simp only at h2 h3
  have L0 := Loc.new w [x0, x1] 30
  go_enter Try.func24, Try.ntmps24
  go_wp2_with fail
  refine (heldPageS_w x0 t.pages.length k _ (h2.below (by repeat (first | with_reducible exact Below.refl _ _ | with_reducible refine below_drewN ?_ _ | with_reducible refine Below.drew ?_ | with_reducible refine Below.alloc ?_ ?_ _ | with_reducible refine Below.setCell ?_ ?_ _ | omega | (focus (simp; omega)) | (focus (simp; done))))) (by omega) hk0 (by omega)).mono ?_
  rintro e w1 ⟨rfl, hb1⟩
  have M0 := Loc.carryB L0 (fun h => by ((repeat (first | with_reducible exact h | with_reducible refine Loc.drew ?_ | with_reducible refine Loc.drewN ?_ _ | with_reducible refine Loc.alloc ?_ _)); done)) hb1
  obtain ⟨k0, k1, kf⟩ := M0.two
  go_wp2_with fail
  refine (calls_eq (heldIntS_w x1 t.erases.length (k + 2 * t.pages.length) _ (h3.below (Below.next (by repeat (first | with_reducible exact Below.refl _ _ | with_reducible refine below_drewN ?_ _ | with_reducible refine Below.drew ?_ | with_reducible refine Below.alloc ?_ ?_ _ | with_reducible refine Below.setCell ?_ ?_ _ | omega | (focus (simp; omega)) | (focus (simp; done)))) hb1)) (by omega) (by omega) (by omega)) (by simp)).mono ?_
  rintro e w2 ⟨rfl, hb2⟩
  go_wp2
  go_ret
  refine ⟨ret_int ?_, (by repeat (first | with_reducible exact Below.refl _ _ | with_reducible assumption | with_reducible refine below_drewN ?_ _ | with_reducible refine Below.drew ?_ | with_reducible refine Below.alloc ?_ ?_ _ | with_reducible refine Below.setCell ?_ ?_ _ | (with_reducible refine Below.next ?_ (by assumption)) | omega | (focus (simp; omega)) | (focus (simp; done))))⟩
  simp [cntFlash]; omega
def ownAt (l : List Pg) (k : Nat) : Int := (l.getD k default).own
def pageOk (n : Int) (p : Pg) : Bool := inB p.own (-2) ((n - 1) * 4 - 1) && inB p.val 0 255
def flashOkAt (f : Fl) (k : Nat) : Bool := pageOk f.erases.length (f.pages.getD k default) && !(decide (0 ≤ ownAt f.pages k) && decide (ownAt f.pages k ∈ (f.pages.take k).map Pg.own))
def flashB (f : Fl) : Bool := inB f.erases.length 2 6 && decide (f.pages.length = f.erases.length * 4) && allIn f.erases 0 1000000 && allK f.pages.length (flashOkAt f)
theorem flash_no1 {f : Fl} (h : inB f.erases.length 2 6 = false) : flashB f = false := by simp [flashB, h]
theorem flash_no2 {f : Fl} (h : decide (f.pages.length = f.erases.length * 4) = false) : flashB f = false := by simp [flashB, h]
theorem flash_no3 {f : Fl} (h : allIn f.erases 0 1000000 = false) : flashB f = false := by simp [flashB, h]
theorem flash_no4 {f : Fl} {k : Nat} (hk : k < f.pages.length) (h : flashOkAt f k = false) : flashB f = false := by simp [flashB, allK_no hk h]
theorem flash_yes {f : Fl} (h1 : inB f.erases.length 2 6 = true) (h2 : decide (f.pages.length = f.erases.length * 4) = true) (h3 : allIn f.erases 0 1000000 = true) (h4 : allK f.pages.length (flashOkAt f) = true) : flashB f = true := by simp only [flashB, h1, h2, h3, h4]; rfl
theorem flashOkAt_get {f : Fl} {k : Nat} {p : Pg} (hk : k < f.pages.length) (hp : p = f.pages[k]) : flashOkAt f k = (inB p.own (-2) (((f.erases.length : Int) - 1) * 4 - 1) && inB p.val 0 255 && !(decide (0 ≤ p.own) && decide (p.own ∈ (f.pages.take k).map Pg.own))) := by
  subst hp
  simp [flashOkAt, ownAt, pageOk, hk]
theorem idx_mem {l : List Int} {x : Int} : (0 ≤ idx l x) ↔ x ∈ l := by
  have := @idx_neg l x
  constructor
  · intro h; exact Decidable.byContradiction fun hn => by have := this.2 hn; omega
  · intro h; exact Int.not_lt.1 fun hn => this.1 hn h
end Go.Proofs.Ytnnanknljpkdeaa
