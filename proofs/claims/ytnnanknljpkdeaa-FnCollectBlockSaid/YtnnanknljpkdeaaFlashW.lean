/-
  Flash memories: copies. Conditions: lengths at most 2^40.
-/
import Derived.Test.YtnnanknljpkdeaaBase
import Derived.Test.YtnnanknljpkdeaaNum
import Derived.Test.YtnnanknljpkdeaaInts
import Derived.Test.YtnnanknljpkdeaaApp
import Derived.Test.YtnnanknljpkdeaaIntsW
import Derived.Test.YtnnanknljpkdeaaLib
import Derived.Test.YtnnanknljpkdeaaSpares
import Derived.Test.YtnnanknljpkdeaaOwn
import Derived.Test.YtnnanknljpkdeaaPage
import Derived.Test.YtnnanknljpkdeaaFlash
import Derived.Test.YtnnanknljpkdeaaFlashM
import Derived.Test.YtnnanknljpkdeaaFlashC
import Derived.Test.YtnnanknljpkdeaaFlashD
import Derived.Test.YtnnanknljpkdeaaFlashV
import Derived.Test.YtnnanknljpkdeaaThinC
namespace Go.Proofs.Ytnnanknljpkdeaa
open Go.RowKit
abbrev cloneIntS_w := @cloneInts_w
set_option maxHeartbeats 2000000 in
theorem cloneFlash_c (x0 x1 : Value) (t : Fl) (w : World) (h : FlashRd w [x0, x1] t) (hs : sizeFlash t ≤ 1099511627776) :
    Calls Try.prog 66 #[.agg #[x0, x1]] w (MadeFlash t w) := by
  obtain ⟨u, v, h1, h2, h3⟩ := h
  simp only [List.cons.injEq, and_true] at h1
  obtain ⟨rfl, rfl⟩ := h1
  unfold sizeFlash at hs
  have L0 := Loc.new w [x0, x1] 30
  have L1 := Loc.newAt (w.alloc (.cells #[x0, x1] 30)) [.slice none 0 0, .slice none 0 0] 30 (b := w.heap.size + 1) (by simp)
  obtain ⟨k0, k1, kf⟩ := Loc.two (Loc.alloc L0 (.cells #[.slice none 0 0, .slice none 0 0] 30))
  go_enter Try.func66, Try.ntmps66
  go_wp2_with fail
  go_region_held3 (fun w' => w'.cell? ⟨w.heap.size, 0, none⟩ = some x0 ∧ w'.cell? ⟨w.heap.size, 1, none⟩ = some x1) (first | go_keep | (refine ⟨?_, ?_⟩ <;> assumption) | (refine ⟨?_, ?_⟩ <;> (simp [go_sem, *]; done)))
    (first
      | (go_at_call 79; (with_reducible refine (clonePageS_w x0 t.pages _ (h2.below (by repeat (first | with_reducible exact Below.refl _ _ | with_reducible refine below_drewN ?_ _ | with_reducible refine Below.drew ?_ | with_reducible refine Below.alloc ?_ ?_ _ | with_reducible refine Below.setCell ?_ ?_ _ | omega | (focus (simp; omega)) | (focus (simp; done))))) (by omega)).mono ?_); rintro e w1 ⟨y0, rfl, o1, hb1⟩; obtain ⟨A1, c1, g1, rfl, _, _⟩ := id o1; have M0 := Loc.carryB L0 (fun h => by ((repeat (first | with_reducible exact h | with_reducible refine Loc.drew ?_ | with_reducible refine Loc.drewN ?_ _ | with_reducible refine Loc.alloc ?_ _)); done)) hb1; obtain ⟨m0, m1, mf⟩ := M0.two; have M1 := Loc.carryB L1 (fun h => by ((repeat (first | with_reducible exact h | with_reducible refine Loc.drew ?_ | with_reducible refine Loc.drewN ?_ _ | with_reducible refine Loc.alloc ?_ _)); done)) hb1; obtain ⟨n0, n1, nf⟩ := M1.two; have zM := M1.lt; have W1 : Below w.heap.size w w1 := Below.next (by repeat (first | with_reducible exact Below.refl _ _ | with_reducible refine below_drewN ?_ _ | with_reducible refine Below.drew ?_ | with_reducible refine Below.alloc ?_ ?_ _ | with_reducible refine Below.setCell ?_ ?_ _ | omega | (focus (simp; omega)) | (focus (simp; done)))) hb1; have hz1 := hb1.size; (try simp at hz1))
      | (go_at_call 72; (with_reducible refine (cloneIntS_w x1 t.erases _ (h3.below (by repeat (first | with_reducible exact W1 | with_reducible exact Below.refl _ _ | with_reducible refine below_drewN ?_ _ | with_reducible refine Below.drew ?_ | with_reducible refine Below.alloc ?_ ?_ _ | with_reducible refine Below.setCell ?_ ?_ _ | (with_reducible refine Below.next ?_ (by assumption)) | ((with_reducible refine Below.far' (by assumption) ?_ ?_ ?_); (focus (first | omega | (simp; omega) | (simp; done))); (focus (first | omega | (simp; omega) | (simp; done)))) | omega | (focus (simp; omega)) | (focus (simp; done))))) (by omega)).mono ?_); rintro e w2 ⟨y1, rfl, o2, hb2⟩; obtain ⟨A2, c2, g2, rfl, _, _⟩ := id o2; have N0 := Loc.carryB M0 (fun h => by ((repeat (first | with_reducible exact h | with_reducible refine Loc.drew ?_ | with_reducible refine Loc.drewN ?_ _ | with_reducible refine Loc.alloc ?_ _)); done)) hb2; obtain ⟨p0, p1, pf⟩ := N0.two; have N1 := Loc.carryB M1 (fun h => by ((repeat (first | with_reducible exact h | with_reducible refine Loc.drew ?_ | with_reducible refine Loc.drewN ?_ _ | with_reducible refine Loc.alloc ?_ _)); done)) hb2; obtain ⟨q0, q1, qf⟩ := N1.two; have zN := N1.lt; have W2 : Below w.heap.size w w2 := Below.next (W := w) (by repeat (first | with_reducible exact W1 | with_reducible exact Below.refl _ _ | with_reducible refine below_drewN ?_ _ | with_reducible refine Below.drew ?_ | with_reducible refine Below.alloc ?_ ?_ _ | with_reducible refine Below.setCell ?_ ?_ _ | (with_reducible refine Below.next ?_ (by assumption)) | ((with_reducible refine Below.far' (by assumption) ?_ ?_ ?_); (focus (first | omega | (simp; omega) | (simp; done))); (focus (first | omega | (simp; omega) | (simp; done)))) | omega | (focus (simp; omega)) | (focus (simp; done)))) hb2; have hz2 := hb2.size; (try simp at hz2)))
  have hap : Apart (.slice A1 t.pages.length c1) (.slice A2 t.erases.length c2) := by
    obtain ⟨A, c, g, he, hr, hg⟩ := o1
    obtain ⟨A', c', g', he', hr', hg'⟩ := o2
    cases he
    cases he'
    intro a n c a' n' c' h1 h2
    cases h1
    cases h2
    rw [hr.addr, hr'.addr]
    simp at hg hg' ⊢
    omega
  have H1 : Hid (SOwn encPageS tyPageS (w.heap.size + 1 + 1) w2 w2.heap.size (.slice A1 t.pages.length c1) t.pages) := Lib.hid ((o1.below (Below.next (by repeat (first | with_reducible exact Below.refl _ _ | with_reducible refine below_drewN ?_ _ | with_reducible refine Below.drew ?_ | with_reducible refine Below.alloc ?_ ?_ _ | with_reducible refine Below.setCell ?_ ?_ _ | omega | (focus (simp; omega)) | (focus (simp; done)))) hb2)).mono (by first | omega | (focus (simp; omega)) | (focus (simp; done))) (by omega))
  have H2 : Hid (SOwn encIntS tyIntS (w.heap.size + 1 + 1) w2 w2.heap.size (.slice A2 t.erases.length c2) t.erases) := Lib.hid (o2.mono (by first | omega | (focus (simp; omega)) | (focus (simp; done))) (by omega))
  have HA := Lib.hid hap
  clear hap o1 o2
  go_wp2
  refine bodyPost_ret (v := .agg #[.slice A1 t.pages.length c1, .slice A2 t.erases.length c2]) (by simp [results, Try.results66, go_sem, *]) rfl ⟨.slice A1 t.pages.length c1, .slice A2 t.erases.length c2, rfl, ⟨.slice A1 t.pages.length c1, .slice A2 t.erases.length c2, rfl, ?_, ?_, HA.out⟩, ?_⟩
  · refine SOwn.mono (B := w.heap.size + 1 + 1) (C := w2.heap.size) (by repeat (first | with_reducible exact H1.out | with_reducible refine SOwn.drew ?_ | with_reducible refine SOwn.drewN ?_ _ | with_reducible refine SOwn.alloc ?_ _ | (with_reducible refine SOwn.below ?_ (by assumption)) | ((with_reducible refine SOwn.other ?_ ?_ _); rotate_left; (focus (first | omega | (simp; omega) | (simp; done)))))) (by omega) (by first | omega | (focus (simp; omega)) | (focus (simp; done)))
  · refine SOwn.mono (B := w.heap.size + 1 + 1) (C := w2.heap.size) (by repeat (first | with_reducible exact H2.out | with_reducible refine SOwn.drew ?_ | with_reducible refine SOwn.drewN ?_ _ | with_reducible refine SOwn.alloc ?_ _ | (with_reducible refine SOwn.below ?_ (by assumption)) | ((with_reducible refine SOwn.other ?_ ?_ _); rotate_left; (focus (first | omega | (simp; omega) | (simp; done)))))) (by omega) (by first | omega | (focus (simp; omega)) | (focus (simp; done)))
  · exact (by repeat (first | with_reducible exact W2 | with_reducible exact Below.refl _ _ | with_reducible refine below_drewN ?_ _ | with_reducible refine Below.drew ?_ | with_reducible refine Below.alloc ?_ ?_ _ | with_reducible refine Below.setCell ?_ ?_ _ | (with_reducible refine Below.next ?_ (by assumption)) | ((with_reducible refine Below.far' (by assumption) ?_ ?_ ?_); (focus (first | omega | (simp; omega) | (simp; done))); (focus (first | omega | (simp; omega) | (simp; done)))) | omega | (focus (simp; omega)) | (focus (simp; done))))
abbrev elIntS := el_int
set_option maxHeartbeats 4000000 in
theorem copyFlash_c (x0 x1 : Value) (t : Fl) (w : World) (h : FlashRd w [x0, x1] t) (hs : sizeFlash t ≤ 1099511627776) :
    Calls Try.prog 68 #[.agg #[x0, x1]] w (MadeFlash t w) := by
  obtain ⟨u, v, h1, ⟨A, c, rfl, ra, _⟩, ⟨A', c', rfl, rb, _⟩⟩ := h
  simp only [List.cons.injEq, and_true] at h1
  obtain ⟨rfl, rfl⟩ := h1
  unfold sizeFlash at hs
  have L0 := Loc.new w [.slice A t.pages.length c, .slice A' t.erases.length c'] 30
  have L1 := Loc.newAt (w.alloc (.cells #[.slice A t.pages.length c, .slice A' t.erases.length c'] 30)) [.slice none 0 0, .slice none 0 0] 30 (b := w.heap.size + 1) (by simp)
  obtain ⟨k0, k1, kf⟩ := Loc.two (Loc.alloc L0 (.cells #[.slice none 0 0, .slice none 0 0] 30))
  have n1 : ([] : List elemPageS).length + t.pages.length ≤ maxLen := by simp [maxLen]; omega
  have n2 : ([] : List elemIntS).length + t.erases.length ≤ maxLen := by simp [maxLen]; omega
  have b1 : (([] : List elemPageS).length + t.pages.length) * 16 ≤ 140737488355328 := by simp; omega
  have b2 : (([] : List elemIntS).length + t.erases.length) * 8 ≤ 140737488355328 := by simp; omega
  go_enter Try.func68, Try.ntmps68
  go_wp2_with fail
  go_region_held3 (fun w' => w'.cell? ⟨w.heap.size, 0, none⟩ = some (.slice A t.pages.length c) ∧ w'.cell? ⟨w.heap.size, 1, none⟩ = some (.slice A' t.erases.length c')) (first | go_keep | (refine ⟨?_, ?_⟩ <;> assumption) | (refine ⟨?_, ?_⟩ <;> (simp [go_sem, *]; done)))
    (first
      | (refine step_append_at (by rfl) (.tmp 3) (.tmp 5) (by rfl) elPageS ([] : List elemPageS) (by rfl) (by repeat (first | ((with_reducible refine Row.made0 ?_); (focus (first | with_reducible rfl | omega | (simp; omega) | (simp; done)))) | with_reducible refine Row.drew ?_ | with_reducible refine Row.drewN ?_ _ | with_reducible refine Row.alloc ?_ _ | ((with_reducible refine Row.far' (by assumption) ?_ ?_); (focus (first | omega | (simp; omega) | (simp; done)))))) A c t.pages (by rfl) ?_ n1 b1 ?_; (focus (exact (by repeat (first | with_reducible exact ra | with_reducible refine Rd.drew ?_ | with_reducible refine Rd.drewN ?_ _ | with_reducible refine Rd.alloc ?_ _ | (with_reducible refine Rd.below ?_ (by assumption)) | ((with_reducible refine Rd.store ra ?_ ?_ _); (focus (first | omega | (simp; omega) | (simp; done)))) | ((with_reducible refine Rd.far' ra (by assumption) ?_ ?_); (focus (first | omega | (simp; omega) | (simp; done)))))))); intro A1 c1 g1 w1 l1 hl1 _ _ row1 gr1 gg1; have e1 := hl1.out; simp only [List.nil_append] at e1; subst e1; have M0 := Loc.carry L0 (fun h => by ((repeat (first | with_reducible exact h | with_reducible refine Loc.drew ?_ | with_reducible refine Loc.drewN ?_ _ | with_reducible refine Loc.alloc ?_ _)); done)) gr1 (by first | omega | (simp; omega) | (simp; done)); obtain ⟨m0, m1, mf⟩ := M0.two; have M1 := Loc.carry L1 (fun h => by ((repeat (first | with_reducible exact h | with_reducible refine Loc.drew ?_ | with_reducible refine Loc.drewN ?_ _ | with_reducible refine Loc.alloc ?_ _)); done)) gr1 (by first | omega | (simp; omega) | (simp; done)); obtain ⟨m0', m1', mf'⟩ := M1.two; have zM := M1.lt; have W1 := Below.gin (D := w.heap.size) (a := w) (by repeat (first | with_reducible exact Below.refl _ _ | with_reducible refine below_drewN ?_ _ | with_reducible refine Below.drew ?_ | with_reducible refine Below.alloc ?_ ?_ _ | with_reducible refine Below.setCell ?_ ?_ _ | omega | (focus (simp; omega)) | (focus (simp; done)))) (GIn.of_grown gr1 (Nat.le_refl _) (Nat.lt_succ_self _)) (by first | omega | (simp; omega) | (simp; done)) (by first | omega | (simp; omega) | (simp; done)); have hz1 := gr1.size; have lt1 := row1.made?; (try simp at hz1); (try simp at gg1); obtain ⟨hc1, hf1⟩ := gcell gr1)
      | (refine step_append_at (by rfl) (.tmp 7) (.tmp 9) (by rfl) elIntS ([] : List elemIntS) (by rfl) (by repeat (first | ((with_reducible refine Row.made0 ?_); (focus (first | with_reducible rfl | omega | (simp; omega) | (simp; done)))) | with_reducible refine Row.drew ?_ | with_reducible refine Row.drewN ?_ _ | with_reducible refine Row.alloc ?_ _ | ((with_reducible refine Row.far' (by assumption) ?_ ?_); (focus (first | omega | (simp; omega) | (simp; done)))))) A' c' t.erases (by rfl) ?_ n2 b2 ?_; (focus (exact (by repeat (first | with_reducible exact rb | with_reducible refine Rd.drew ?_ | with_reducible refine Rd.drewN ?_ _ | with_reducible refine Rd.alloc ?_ _ | (with_reducible refine Rd.below ?_ (by assumption)) | ((with_reducible refine Rd.store rb ?_ ?_ _); (focus (first | omega | (simp; omega) | (simp; done)))) | ((with_reducible refine Rd.far' rb (by assumption) ?_ ?_); (focus (first | omega | (simp; omega) | (simp; done)))))))); intro A2 c2 g2 w2 l2 hl2 _ _ row2 gr2 gg2; have e2 := hl2.out; simp only [List.nil_append] at e2; subst e2; have N0 := Loc.carry M0 (fun h => by ((repeat (first | with_reducible exact h | with_reducible refine Loc.drew ?_ | with_reducible refine Loc.drewN ?_ _ | with_reducible refine Loc.alloc ?_ _)); done)) gr2 (by first | omega | (simp; omega) | (simp; done)); obtain ⟨p0, p1, pf⟩ := N0.two; have N1 := Loc.carry M1 (fun h => by ((repeat (first | with_reducible exact h | with_reducible refine Loc.drew ?_ | with_reducible refine Loc.drewN ?_ _ | with_reducible refine Loc.alloc ?_ _)); done)) gr2 (by first | omega | (simp; omega) | (simp; done)); obtain ⟨p0', p1', pf'⟩ := N1.two; have zN := N1.lt; have W2 := Below.gin (D := w.heap.size) (a := w) (by repeat (first | with_reducible exact W1 | with_reducible exact Below.refl _ _ | with_reducible refine below_drewN ?_ _ | with_reducible refine Below.drew ?_ | with_reducible refine Below.alloc ?_ ?_ _ | with_reducible refine Below.setCell ?_ ?_ _ | (with_reducible refine Below.next ?_ (by assumption)) | ((with_reducible refine Below.far' (by assumption) ?_ ?_ ?_); (focus (first | omega | (simp; omega) | (simp; done))); (focus (first | omega | (simp; omega) | (simp; done)))) | omega | (focus (simp; omega)) | (focus (simp; done)))) (GIn.of_grown gr2 (Nat.le_refl _) (Nat.lt_succ_self _)) (by first | omega | (simp; omega) | (simp; done)) (by first | omega | (simp; omega) | (simp; done)); have hz2 := gr2.size; have lt2 := row2.made?; have hrow1 : Row encPageS w2 g1 tyPageS A1 c1 t.pages := (by first | exact Row.far (by repeat (first | with_reducible exact row1 | with_reducible refine Row.drew ?_ | with_reducible refine Row.drewN ?_ _ | with_reducible refine Row.alloc ?_ _ | (with_reducible refine Row.below ?_ (by assumption)) | ((with_reducible refine Row.other ?_ ?_ _); rotate_left; (focus (first | omega | (simp; omega) | (simp; done)))) | ((with_reducible refine Row.far' (by assumption) ?_ ?_); (focus (first | omega | (simp; omega) | (simp; done)))))) gr2 lt1 (by first | omega | (simp; omega) | (simp; done)) | exact Row.far' gr2 (by first | omega | (simp; omega) | (simp; done)) (by repeat (first | with_reducible exact row1 | with_reducible refine Row.drew ?_ | with_reducible refine Row.drewN ?_ _ | with_reducible refine Row.alloc ?_ _ | (with_reducible refine Row.below ?_ (by assumption)) | ((with_reducible refine Row.other ?_ ?_ _); rotate_left; (focus (first | omega | (simp; omega) | (simp; done)))) | ((with_reducible refine Row.far' (by assumption) ?_ ?_); (focus (first | omega | (simp; omega) | (simp; done))))))); (try simp at hz2); (try simp at gg2)))
  all_goals
    have hap : Hid (Apart (.slice A1 t.pages.length c1) (.slice A2 t.erases.length c2)) := by
      intro a n c a' n' c' h1 h2
      cases h1
      cases h2
      rw [hrow1.addr, row2.addr]
      simp at lt1 lt2 ⊢
      omega
    have H1 : Hid (SOwn encPageS tyPageS (w.heap.size + 1 + 1) w2 w2.heap.size (.slice A1 t.pages.length c1) t.pages) := Lib.hid ⟨A1, c1, g1, rfl, hrow1, by rcases hrow1.made? with h | h; exact .inl h; exact .inr ⟨by omega, h⟩⟩
    have H2 : Hid (SOwn encIntS tyIntS (w.heap.size + 1 + 1) w2 w2.heap.size (.slice A2 t.erases.length c2) t.erases) := Lib.hid ⟨A2, c2, g2, rfl, row2, by rcases lt2 with h | h; exact .inl h; exact .inr ⟨by omega, h⟩⟩
    clear hrow1 row1 row2
    go_wp2
    refine bodyPost_ret (v := .agg #[.slice A1 t.pages.length c1, .slice A2 t.erases.length c2]) (by simp [results, Try.results68, go_sem, *]) rfl ⟨.slice A1 t.pages.length c1, .slice A2 t.erases.length c2, rfl, ⟨.slice A1 t.pages.length c1, .slice A2 t.erases.length c2, rfl, ?_, ?_, hap.out⟩, ?_⟩
    · refine SOwn.mono (B := w.heap.size + 1 + 1) (C := w2.heap.size) (by repeat (first | with_reducible exact H1.out | with_reducible refine SOwn.drew ?_ | with_reducible refine SOwn.drewN ?_ _ | with_reducible refine SOwn.alloc ?_ _ | (with_reducible refine SOwn.below ?_ (by assumption)) | ((with_reducible refine SOwn.other ?_ ?_ _); rotate_left; (focus (first | omega | (simp; omega) | (simp; done)))))) (by omega) (by first | omega | (focus (simp; omega)) | (focus (simp; done)))
    · refine SOwn.mono (B := w.heap.size + 1 + 1) (C := w2.heap.size) (by repeat (first | with_reducible exact H2.out | with_reducible refine SOwn.drew ?_ | with_reducible refine SOwn.drewN ?_ _ | with_reducible refine SOwn.alloc ?_ _ | (with_reducible refine SOwn.below ?_ (by assumption)) | ((with_reducible refine SOwn.other ?_ ?_ _); rotate_left; (focus (first | omega | (simp; omega) | (simp; done)))))) (by omega) (by first | omega | (focus (simp; omega)) | (focus (simp; done)))
    · exact (by repeat (first | with_reducible exact W2 | with_reducible exact Below.refl _ _ | with_reducible refine below_drewN ?_ _ | with_reducible refine Below.drew ?_ | with_reducible refine Below.alloc ?_ ?_ _ | with_reducible refine Below.setCell ?_ ?_ _ | (with_reducible refine Below.next ?_ (by assumption)) | ((with_reducible refine Below.far' (by assumption) ?_ ?_ ?_); (focus (first | omega | (simp; omega) | (simp; done))); (focus (first | omega | (simp; omega) | (simp; done)))) | omega | (focus (simp; omega)) | (focus (simp; done))))
end Go.Proofs.Ytnnanknljpkdeaa
