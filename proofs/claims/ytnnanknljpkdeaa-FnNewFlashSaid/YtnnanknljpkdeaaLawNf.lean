/-
  FnNewFlash: new flash memories are empty. No condition.
-/
import Derived.Test.YtnnanknljpkdeaaBase
import Derived.Test.YtnnanknljpkdeaaNum
import Derived.Test.YtnnanknljpkdeaaInts
import Derived.Test.YtnnanknljpkdeaaApp
import Derived.Test.YtnnanknljpkdeaaIntsW
import Derived.Test.YtnnanknljpkdeaaLib
import Derived.Test.YtnnanknljpkdeaaSpares
import Derived.Test.YtnnanknljpkdeaaOwn
import Derived.Test.YtnnanknljpkdeaaPage
import Derived.Test.YtnnanknljpkdeaaFlash
import Derived.Test.YtnnanknljpkdeaaFlashM
import Derived.Test.YtnnanknljpkdeaaFlashC
import Derived.Test.YtnnanknljpkdeaaFlashD
import Derived.Test.YtnnanknljpkdeaaFlashV
import Derived.Test.YtnnanknljpkdeaaThinC
import Derived.Test.YtnnanknljpkdeaaFlashW
import Derived.Test.YtnnanknljpkdeaaFlashN
import Derived.Test.YtnnanknljpkdeaaFlashX
import Derived.Test.YtnnanknljpkdeaaFlashY
import Derived.Test.YtnnanknljpkdeaaFlashCB
import Derived.Test.YtnnanknljpkdeaaDraw
import Derived.Test.YtnnanknljpkdeaaDrawK
import Derived.Test.YtnnanknljpkdeaaSameF
import Derived.Test.YtnnanknljpkdeaaNewP
import Derived.Test.YtnnanknljpkdeaaOpen
import Derived.Laws.StructEq
import Derived.IntWalk
import Derived.StillTailTactics
namespace Go.Proofs.Ytnnanknljpkdeaa
open Go.RowKit Go.ChangeShapes Go.WideShapes Go.ChangeAt Go.Deep Go.Joins
theorem sameZ (A B : Option Addr) (c d M : Nat) (w : World) (ha : Rd eInt w A (List.replicate M 0)) (hb : Rd eInt w B (List.replicate M 0)) (hM : M ≤ 100) :
    Calls Try.prog 38 #[.slice A M c, .slice B M d] w fun e w' => e = .returned (.bool true) ∧ Below w.heap.size w w' := by
  have h := sameInts_any A B c d (List.replicate M 0) (List.replicate M 0) w ha hb (by simp; omega) (by simp; omega)
  rw [List.length_replicate] at h
  refine h.mono ?_
  rintro e w' ⟨rfl, q, rfl⟩
  exact ⟨by simp, below_drewN (Below.refl _ _) q⟩
namespace LwNf
set_option maxHeartbeats 8000000 in
theorem walk (A : Option Addr) (c : Nat) (l : List Int) (w : World) (hl : l.length ≤ c) (hm : c ≤ maxLen) (hr : Rd eByte w A l) (hb : ∀ x ∈ l, 0 ≤ x ∧ x ≤ 255) :
    Calls Try.prog 11 #[.slice A l.length c] w fun e w' => e = .returned (.bool true) ∧ Below w.heap.size w w' := by
  have HB := Lib.hid hb
  clear hb
  by_cases hsz : (1048576 : Int) < l.length
  · unfold maxLen at hm
    go_enter Try.func11, Try.ntmps11
    go_wp2
    go_ret
    exact ⟨rfl, (by repeat (first | with_reducible exact Below.refl _ _ | with_reducible assumption | with_reducible refine below_drewN ?_ _ | with_reducible refine Below.drew ?_ | with_reducible refine Below.alloc ?_ ?_ _ | with_reducible refine Below.setCell ?_ ?_ _ | (with_reducible refine Below.next ?_ (by assumption)) | omega | (focus (simp; omega)) | (focus (simp; done))))⟩
  · go_enter Try.func11, Try.ntmps11
    go_wp2_with fail
    refine (drawNf_any A c l _ hl hm hr HB.out).mono ?_
    rintro e w1 ⟨n, rfl, n0, n1, hb1⟩
    have hz1 := hb1.size
    have HB1 := Lib.hid hb1
    clear hb1
    by_cases hin : 2 ≤ n ∧ n ≤ 6
    · obtain ⟨h2, h6⟩ := hin
      obtain ⟨f, hf, hp, he, hfb, hcb, hck, hwr, hvw⟩ := newF_facts h2 h6
      have HF := Lib.hid hf
      have HCB := Lib.hid hcb
      have HCK := Lib.hid hck
      have HWR := Lib.hid hwr
      obtain ⟨M, hM⟩ := Int.eq_ofNat_of_zero_le (by omega : 0 ≤ 4 * (n - 1))
      have hM2 : (4 * (n - 1)).toNat = M := by omega
      rw [hM2] at hvw
      have HVW := Lib.hid hvw
      have hMs : M ≤ 100 := by omega
      have hsz' : Hid (sizeFlash f ≤ 1099511627776) := Lib.hid (by unfold sizeFlash; omega)
      clear hf hcb hck hwr hvw hfb hM2
      go_wp2_with fail
      refine (implNew_c n _).mono ?_
      rw [HF.out]
      rintro e w2 ⟨u0, u1, rfl, O2, hb2⟩
      have HR2 := Lib.hid O2.rd
      obtain ⟨A2, c2, A3, c3, rfl, rfl⟩ := flashRd_lens O2.rd
      have L4 := Loc.newAt w2 [.slice A2 f.pages.length c2, .slice A3 f.erases.length c3] 30 (b := w2.heap.size) rfl
      have HB2 : Hid (Below w.heap.size w w2) := Lib.hid (Below.next (W := w) HB1.out hb2)
      have hz2 := hb2.size
      clear hb2 O2
      go_wp2
      go_region_held3 (fun w' => w'.cell? ⟨w2.heap.size, 0, none⟩ = some (.slice A2 f.pages.length c2) ∧ w'.cell? ⟨w2.heap.size, 1, none⟩ = some (.slice A3 f.erases.length c3)) (first | assumption | (refine ⟨?_, ?_⟩ <;> assumption) | (refine ⟨?_, ?_⟩ <;> (simp [go_sem, *]; done)) | go_keep)
        (first
          | (go_at_call 21; (with_reducible refine (specNew_c n _).mono ?_); rw [HF.out]; rintro e w3 ⟨v0, v1, rfl, O3, hb3⟩; have HR3 := Lib.hid O3.rd; have HR23 : Hid (FlashRd w3 [.slice A2 f.pages.length c2, .slice A3 f.erases.length c3] f) := Lib.hid (FlashRd.below HR2.out (Below.next (W := w2) (by repeat (first | with_reducible exact Below.refl _ _ | with_reducible refine below_drewN ?_ _ | with_reducible refine Below.drew ?_ | with_reducible refine Below.alloc ?_ ?_ _ | with_reducible refine Below.setCell ?_ ?_ _ | omega | (focus (simp; omega)) | (focus (simp; done)))) hb3)); have L43 := Loc.carryB L4 (fun h => by ((repeat (first | with_reducible exact h | with_reducible refine Loc.drew ?_ | with_reducible refine Loc.drewN ?_ _ | with_reducible refine Loc.alloc ?_ _)); done)) hb3; obtain ⟨x03, x13, xf3⟩ := L43.two; have HB3 : Hid (Below w.heap.size w w3) := Lib.hid (Below.next (W := w) (by repeat (first | with_reducible exact HB2.out | with_reducible exact Below.refl _ _ | with_reducible refine below_drewN ?_ _ | with_reducible refine Below.drew ?_ | with_reducible refine Below.alloc ?_ ?_ _ | with_reducible refine Below.setCell ?_ ?_ _ | (with_reducible refine Below.next ?_ (by assumption)) | ((with_reducible refine Below.far' (by assumption) ?_ ?_ ?_); (focus (first | omega | (simp; omega) | (simp; done))); (focus (first | omega | (simp; omega) | (simp; done)))) | omega | (focus (simp; omega)) | (focus (simp; done)))) hb3); have hz3 := hb3.size; (try simp at hz3); clear hb3 O3)
          | (go_at_call 35; (with_reducible refine (sameFlash_c _ _ v0 v1 f _ HR23.out HR3.out hsz'.out).mono ?_); rintro e w4 ⟨rfl, hb4⟩; have HR24 : Hid (FlashRd w4 [.slice A2 f.pages.length c2, .slice A3 f.erases.length c3] f) := Lib.hid (FlashRd.below HR23.out hb4); have L44 := Loc.carryB L43 (fun h => by ((repeat (first | with_reducible exact h | with_reducible refine Loc.drew ?_ | with_reducible refine Loc.drewN ?_ _ | with_reducible refine Loc.alloc ?_ _)); done)) hb4; obtain ⟨x04, x14, xf4⟩ := L44.two; have HB4 : Hid (Below w.heap.size w w4) := Lib.hid (Below.next (W := w) HB3.out hb4); have hz4 := hb4.size; (try simp at hz4); clear hb4))
      all_goals skip
      go_wp2_with fail
      refine (implCollect_c _ _ f _ HR24.out hsz'.out).mono ?_
      rw [HCB.out, HCK.out]
      rintro e w5 ⟨y0, y1, rfl, O5, hb5⟩
      have HR25 : Hid (FlashRd w5 [.slice A2 f.pages.length c2, .slice A3 f.erases.length c3] f) := Lib.hid (FlashRd.below HR24.out hb5)
      obtain ⟨A5, c5, A6, c6, rfl, rfl⟩ := flashRd_lens O5.rd
      have L45 := Loc.carryB L44 (fun h => by ((repeat (first | with_reducible exact h | with_reducible refine Loc.drew ?_ | with_reducible refine Loc.drewN ?_ _ | with_reducible refine Loc.alloc ?_ _)); done)) hb5
      obtain ⟨x05, x15, xf5⟩ := L45.two
      have HB5 : Hid (Below w.heap.size w w5) := Lib.hid (Below.next (W := w) HB4.out hb5)
      have hz5 := hb5.size
      have z45 := L45.lt
      clear hb5 O5 x04 x14 xf4
      have hmk := run_make_el el_int M (by omega) (by omega)
      simp only [show (Value.int .i64 0).cells = #[.int .i64 0] from rfl, show eInt.size = 1 from rfl, Nat.mul_one] at hmk
      have hw1 : IntKind.i64.wrap (n - 1) = n - 1 := IntWalk.i64_in _ (by omega)
      have hw2 : IntKind.i64.wrap (4 * (n - 1)) = 4 * (n - 1) := IntWalk.i64_in _ (by omega)
      have hw3 : IntKind.i64.wrap (M : Int) = (M : Int) := IntWalk.i64_in _ (by omega)
      go_wp2_with fail
      go_region_held3 (fun w' => w'.cell? ⟨w2.heap.size, 0, none⟩ = some (.slice A2 f.pages.length c2) ∧ w'.cell? ⟨w2.heap.size, 1, none⟩ = some (.slice A3 f.erases.length c3)) (first | assumption | (refine ⟨?_, ?_⟩ <;> assumption) | (refine ⟨?_, ?_⟩ <;> (simp [go_sem, *]; done)) | go_keep)
        (first
          | (go_at_call 30; (with_reducible refine (implView_c _ _ f _ (FlashRd.below HR25.out (by repeat (first | with_reducible exact Below.refl _ _ | with_reducible refine below_drewN ?_ _ | with_reducible refine Below.drew ?_ | with_reducible refine Below.alloc ?_ ?_ _ | with_reducible refine Below.setCell ?_ ?_ _ | omega | (focus (simp; omega)) | (focus (simp; done))))) hsz'.out).mono ?_); rw [HVW.out]; rintro e w6 ⟨z0, rfl, ⟨A7, c7, g7, hz0e, row7, -⟩, hb6⟩; rw [List.length_replicate] at hz0e; subst hz0e; have HR26 : Hid (FlashRd w6 [.slice A2 f.pages.length c2, .slice A3 f.erases.length c3] f) := Lib.hid (FlashRd.below HR25.out (Below.next (W := w5) (by repeat (first | with_reducible exact Below.refl _ _ | with_reducible refine below_drewN ?_ _ | with_reducible refine Below.drew ?_ | with_reducible refine Below.alloc ?_ ?_ _ | with_reducible refine Below.setCell ?_ ?_ _ | omega | (focus (simp; omega)) | (focus (simp; done)))) hb6)); have L46 := Loc.carryB L45 (fun h => by ((repeat (first | with_reducible exact h | with_reducible refine Loc.drew ?_ | with_reducible refine Loc.drewN ?_ _ | with_reducible refine Loc.alloc ?_ _)); done)) hb6; obtain ⟨x06, x16, xf6⟩ := L46.two; have z46 := L46.lt; have HB6 : Hid (Below w.heap.size w w6) := Lib.hid (Below.next (W := w) (by repeat (first | with_reducible exact HB5.out | with_reducible exact Below.refl _ _ | with_reducible refine below_drewN ?_ _ | with_reducible refine Below.drew ?_ | with_reducible refine Below.alloc ?_ ?_ _ | with_reducible refine Below.setCell ?_ ?_ _ | (with_reducible refine Below.next ?_ (by assumption)) | ((with_reducible refine Below.far' (by assumption) ?_ ?_ ?_); (focus (first | omega | (simp; omega) | (simp; done))); (focus (first | omega | (simp; omega) | (simp; done)))) | omega | (focus (simp; omega)) | (focus (simp; done)))) hb6); have hz6 := hb6.size; (try simp at hz6); have HV6 := Lib.hid row7.rd)
          | (go_at_call 38; (with_reducible refine (sameZ A7 (some ⟨w5.heap.size + 1, 0, none⟩) c7 M M _ (by repeat (first | with_reducible exact HV6.out | with_reducible refine Rd.drew ?_ | with_reducible refine Rd.drewN ?_ _ | with_reducible refine Rd.alloc ?_ _ | (with_reducible refine Rd.below ?_ (by assumption)))) (by repeat (first | (focus (exact (made_intAt (by first | rfl | (simp; done)) (by omega)).rd)) | with_reducible refine Rd.drew ?_ | with_reducible refine Rd.drewN ?_ _ | with_reducible refine Rd.alloc ?_ _ | (with_reducible refine Rd.below ?_ (by assumption)))) hMs).mono ?_); rintro e w7 ⟨rfl, hb7⟩; have HR27 : Hid (FlashRd w7 [.slice A2 f.pages.length c2, .slice A3 f.erases.length c3] f) := Lib.hid (FlashRd.below HR26.out (Below.next (W := w6) (by repeat (first | with_reducible exact Below.refl _ _ | with_reducible refine below_drewN ?_ _ | with_reducible refine Below.drew ?_ | with_reducible refine Below.alloc ?_ ?_ _ | with_reducible refine Below.setCell ?_ ?_ _ | omega | (focus (simp; omega)) | (focus (simp; done)))) hb7)); have L47 := Loc.carryB L46 (fun h => by ((repeat (first | with_reducible exact h | with_reducible refine Loc.drew ?_ | with_reducible refine Loc.drewN ?_ _ | with_reducible refine Loc.alloc ?_ _)); done)) hb7; obtain ⟨x07, x17, xf7⟩ := L47.two; have HB7 : Hid (Below w.heap.size w w7) := Lib.hid (Below.next (W := w) (by repeat (first | with_reducible exact HB6.out | with_reducible exact Below.refl _ _ | with_reducible refine below_drewN ?_ _ | with_reducible refine Below.drew ?_ | with_reducible refine Below.alloc ?_ ?_ _ | with_reducible refine Below.setCell ?_ ?_ _ | (with_reducible refine Below.next ?_ (by assumption)) | ((with_reducible refine Below.far' (by assumption) ?_ ?_ ?_); (focus (first | omega | (simp; omega) | (simp; done))); (focus (first | omega | (simp; omega) | (simp; done)))) | omega | (focus (simp; omega)) | (focus (simp; done)))) hb7))
          | (go_at_call 38; (with_reducible refine (sameZ A7 (some ⟨w6.heap.size, 0, none⟩) c7 M M _ (by repeat (first | with_reducible exact HV6.out | with_reducible refine Rd.drew ?_ | with_reducible refine Rd.drewN ?_ _ | with_reducible refine Rd.alloc ?_ _ | (with_reducible refine Rd.below ?_ (by assumption)))) (by repeat (first | (focus (exact (made_intAt (by first | rfl | (simp; done)) (by omega)).rd)) | with_reducible refine Rd.drew ?_ | with_reducible refine Rd.drewN ?_ _ | with_reducible refine Rd.alloc ?_ _ | (with_reducible refine Rd.below ?_ (by assumption)))) hMs).mono ?_); rintro e w7 ⟨rfl, hb7⟩; have HR27 : Hid (FlashRd w7 [.slice A2 f.pages.length c2, .slice A3 f.erases.length c3] f) := Lib.hid (FlashRd.below HR26.out (Below.next (W := w6) (by repeat (first | with_reducible exact Below.refl _ _ | with_reducible refine below_drewN ?_ _ | with_reducible refine Below.drew ?_ | with_reducible refine Below.alloc ?_ ?_ _ | with_reducible refine Below.setCell ?_ ?_ _ | omega | (focus (simp; omega)) | (focus (simp; done)))) hb7)); have L47 := Loc.carryB L46 (fun h => by ((repeat (first | with_reducible exact h | with_reducible refine Loc.drew ?_ | with_reducible refine Loc.drewN ?_ _ | with_reducible refine Loc.alloc ?_ _)); done)) hb7; obtain ⟨x07, x17, xf7⟩ := L47.two; have HB7 : Hid (Below w.heap.size w w7) := Lib.hid (Below.next (W := w) (by repeat (first | with_reducible exact HB6.out | with_reducible exact Below.refl _ _ | with_reducible refine below_drewN ?_ _ | with_reducible refine Below.drew ?_ | with_reducible refine Below.alloc ?_ ?_ _ | with_reducible refine Below.setCell ?_ ?_ _ | (with_reducible refine Below.next ?_ (by assumption)) | ((with_reducible refine Below.far' (by assumption) ?_ ?_ ?_); (focus (first | omega | (simp; omega) | (simp; done))); (focus (first | omega | (simp; omega) | (simp; done)))) | omega | (focus (simp; omega)) | (focus (simp; done)))) hb7))
          | (go_at_call 26; (with_reducible refine (implWear_c _ _ f _ HR27.out hsz'.out).mono ?_); rw [HWR.out]; rintro e w8 ⟨rfl, hb8⟩; have L48 := Loc.carryB L47 (fun h => by ((repeat (first | with_reducible exact h | with_reducible refine Loc.drew ?_ | with_reducible refine Loc.drewN ?_ _ | with_reducible refine Loc.alloc ?_ _)); done)) hb8; obtain ⟨x08, x18, xf8⟩ := L48.two; have HB8 : Hid (Below w.heap.size w w8) := Lib.hid (Below.next (W := w) HB7.out hb8)))
      all_goals
        clear hw1 hw2 hw3 hmk
        go_wp2
        go_ret
        exact ⟨rfl, HB8.out⟩
    · have hF : newF n = ⟨[], []⟩ := newF_no (by cases h : inB n 2 6; rfl; exact absurd (inB_true.1 h) hin)
      obtain ⟨f, hf⟩ : ∃ f : Fl, f = ⟨[], []⟩ := ⟨_, rfl⟩
      rw [← hf] at hF
      have HF := Lib.hid hF
      have hp : (f.pages.length : Int) = 0 := by rw [hf]; rfl
      have hp0 : (f.pages.length : Int) ≤ 0 := by omega
      have hsz' : Hid (sizeFlash f ≤ 1099511627776) := Lib.hid (by rw [hf]; simp [sizeFlash])
      have hp1 : ((f.pages.length : Int) == 0) = true := by simpa using hp
      have hp2 : (f.pages.length == 0) = true := by rw [beq_iff_eq]; omega
      have hcase : n < 2 ∨ (¬ n < 2 ∧ 6 < n) := by omega
      clear hF hf hin hp hp2
      rcases hcase with h1 | ⟨h1, h1b⟩
      all_goals
        go_wp2_with fail
        refine (implNew_c n _).mono ?_
        rw [HF.out]
        rintro e w2 ⟨u0, u1, rfl, O2, hb2⟩
        have HR2 := Lib.hid O2.rd
        obtain ⟨A2, c2, A3, c3, rfl, rfl⟩ := flashRd_lens O2.rd
        have L4 := Loc.newAt w2 [.slice A2 f.pages.length c2, .slice A3 f.erases.length c3] 30 (b := w2.heap.size) rfl
        have HB2 : Hid (Below w.heap.size w w2) := Lib.hid (Below.next (W := w) HB1.out hb2)
        have hz2 := hb2.size
        clear hb2 O2
        go_wp2
        go_region_held3 (fun w' => w'.cell? ⟨w2.heap.size, 0, none⟩ = some (.slice A2 f.pages.length c2) ∧ w'.cell? ⟨w2.heap.size, 1, none⟩ = some (.slice A3 f.erases.length c3)) (first | assumption | (refine ⟨?_, ?_⟩ <;> assumption) | (refine ⟨?_, ?_⟩ <;> (simp [go_sem, *]; done)) | go_keep)
          (first
            | (go_at_call 21; (with_reducible refine (specNew_c n _).mono ?_); rw [HF.out]; rintro e w3 ⟨v0, v1, rfl, O3, hb3⟩; have HR3 := Lib.hid O3.rd; have HR23 : Hid (FlashRd w3 [.slice A2 f.pages.length c2, .slice A3 f.erases.length c3] f) := Lib.hid (FlashRd.below HR2.out (Below.next (W := w2) (by repeat (first | with_reducible exact Below.refl _ _ | with_reducible refine below_drewN ?_ _ | with_reducible refine Below.drew ?_ | with_reducible refine Below.alloc ?_ ?_ _ | with_reducible refine Below.setCell ?_ ?_ _ | omega | (focus (simp; omega)) | (focus (simp; done)))) hb3)); have L43 := Loc.carryB L4 (fun h => by ((repeat (first | with_reducible exact h | with_reducible refine Loc.drew ?_ | with_reducible refine Loc.drewN ?_ _ | with_reducible refine Loc.alloc ?_ _)); done)) hb3; obtain ⟨x03, x13, xf3⟩ := L43.two; have HB3 : Hid (Below w.heap.size w w3) := Lib.hid (Below.next (W := w) (by repeat (first | with_reducible exact HB2.out | with_reducible exact Below.refl _ _ | with_reducible refine below_drewN ?_ _ | with_reducible refine Below.drew ?_ | with_reducible refine Below.alloc ?_ ?_ _ | with_reducible refine Below.setCell ?_ ?_ _ | (with_reducible refine Below.next ?_ (by assumption)) | ((with_reducible refine Below.far' (by assumption) ?_ ?_ ?_); (focus (first | omega | (simp; omega) | (simp; done))); (focus (first | omega | (simp; omega) | (simp; done)))) | omega | (focus (simp; omega)) | (focus (simp; done)))) hb3); have hz3 := hb3.size; (try simp at hz3); clear hb3 O3)
            | (go_at_call 35; (with_reducible refine (sameFlash_c _ _ v0 v1 f _ HR23.out HR3.out hsz'.out).mono ?_); rintro e w4 ⟨rfl, hb4⟩; have HR24 : Hid (FlashRd w4 [.slice A2 f.pages.length c2, .slice A3 f.erases.length c3] f) := Lib.hid (FlashRd.below HR23.out hb4); have L44 := Loc.carryB L43 (fun h => by ((repeat (first | with_reducible exact h | with_reducible refine Loc.drew ?_ | with_reducible refine Loc.drewN ?_ _ | with_reducible refine Loc.alloc ?_ _)); done)) hb4; obtain ⟨x04, x14, xf4⟩ := L44.two; have HB4 : Hid (Below w.heap.size w w4) := Lib.hid (Below.next (W := w) HB3.out hb4); have hz4 := hb4.size; (try simp at hz4); clear hb4))
        all_goals skip
        go_wp2_with (go_at_call 28; refine (alive_any _).mono ?_; rintro e w6 ⟨rfl, hb6⟩)
        go_ret
        exact ⟨rfl, (by repeat (first | with_reducible exact HB4.out | with_reducible exact Below.refl _ _ | with_reducible refine below_drewN ?_ _ | with_reducible refine Below.drew ?_ | with_reducible refine Below.alloc ?_ ?_ _ | with_reducible refine Below.setCell ?_ ?_ _ | (with_reducible refine Below.next ?_ (by assumption)) | ((with_reducible refine Below.far' (by assumption) ?_ ?_ ?_); (focus (first | omega | (simp; omega) | (simp; done))); (focus (first | omega | (simp; omega) | (simp; done)))) | omega | (focus (simp; omega)) | (focus (simp; done))))⟩
set_option maxRecDepth 100000 in
theorem lifted (os : Os) (started : os.Started) (H : Type) (enc : TypeId × Value → H) :
    ReturnsInHanded {} Try.checked os 11 .any (Rows.fnNewFlashSpec.pre6 enc Try.prog Try.f11 Rows.fnNewFlashRow.domain false) (Rows.fnNewFlashSpec.post enc Try.prog Try.f11 false true false false) := by
  refine returnsInHanded_of_change (C := Try.checked) own_knob started (by kernel_rfl) Try.func11
    (ChangeSpec.witness6 (enc := enc) (C := Try.checked) false ⟨#[], #[.slice none 0 0], []⟩ 8 (by kernel_rfl) (by kernel_rfl) (by kernel_rfl) (by kernel_rfl)) ?_
  intro W base args ds gs before hval0 hW hcnd _
  have hval : ∀ (j : Nat) t v, Try.f11.params[j]? = some t → args[j]? = some v → Value.okWide Try.prog W .any base t v := hval0
  have hW' := hW
  obtain ⟨p, q, hA0, hV, rfl, hfz, hnd⟩ := hW
  have hA : DataW.TrodAll enc Try.prog W 0 (fun _ => true) true Try.f11.params.toList args.toList ds p := hA0
  rw [Try.params11] at hA hval
  obtain ⟨v0, vs0, d0, ds0, p0, q0, hargs, rfl, rfl, h0, r0⟩ := trodAll_cons hA
  obtain ⟨rfl, rfl, rfl⟩ := trodAll_nil r0
  obtain rfl : args = #[v0] := by cases args; simp_all
  obtain ⟨rfl, rfl⟩ := trodVars_none hV
  have k0 := h0
  have lt0 : ∀ x ∈ p0, x.block < W.heap.size := by obtain ⟨m, hm⟩ := k0; exact DataW.trod_lt m _ _ _ hm
  obtain ⟨A0, c0, l0, rfl, hl0, hm0, rd0, by0⟩ := open_bytes Try.underlying38 Try.underlying5 (by kernel_rfl) (hval 0 38 v0 rfl rfl) h0
  clear hA0 hval0
  refine (walk A0 c0 l0 W hl0 hm0 rd0 by0).mono fun e W' ⟨he, bel⟩ => ?_
  subst he
  exact ⟨_, rfl, _, _, _, [], _, [], hW', trodAll_mk1 (shut_bool Try.underlying4 _), (trodAll_cons_mk (Below.trod laid_out (by kernel_rfl) (of_decide_eq_true (by kernel_rfl)) k0 bel lt0) trodAll_mk0), rfl, bel.frame _, fun h => by cases h⟩
theorem over : Rows.fnNewFlashRow.holds Try.pinned (OpenSpec.ofChange Rows.fnNewFlashSpec) :=
  OpenClaim.holds_of_wide 11 Try.f11 rfl rfl rfl rfl rfl rfl rfl ⟨rfl, rfl, rfl, rfl, rfl⟩ rfl rfl rfl rfl rfl (by kernel_rfl) Try.func11 (by kernel_rfl)
    (of_decide_eq_true (by kernel_rfl)) (by unfold Func.isWrapper; first | (rw [if_pos (by decide +kernel)]; kernel_rfl) | (rw [if_neg (by decide +kernel)]; exact ⟨rfl, rfl⟩))
    (fun os started H enc _ => lifted os started H enc)
theorem proved : Rows.FnNewFlashSaid := over
end LwNf
end Go.Proofs.Ytnnanknljpkdeaa
