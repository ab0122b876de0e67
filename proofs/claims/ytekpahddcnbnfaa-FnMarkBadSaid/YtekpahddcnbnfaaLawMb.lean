/-
  FnMarkBad: bad sectors are replaced. No condition.
-/
import Derived.Test.YtekpahddcnbnfaaBase
import Derived.Test.YtekpahddcnbnfaaNum
import Derived.Test.YtekpahddcnbnfaaInts
import Derived.Test.YtekpahddcnbnfaaApp
import Derived.Test.YtekpahddcnbnfaaIntsW
import Derived.Test.YtekpahddcnbnfaaLib
import Derived.Test.YtekpahddcnbnfaaSpares
import Derived.Test.YtekpahddcnbnfaaHome
import Derived.Test.YtekpahddcnbnfaaMark
import Derived.Test.YtekpahddcnbnfaaMarkS
import Derived.Test.YtekpahddcnbnfaaMarkA
import Derived.Test.YtekpahddcnbnfaaOwn
import Derived.Test.YtekpahddcnbnfaaSparesO
import Derived.Test.YtekpahddcnbnfaaDraw
import Derived.Test.YtekpahddcnbnfaaDrawK
import Derived.Test.YtekpahddcnbnfaaDrawSp
import Derived.Test.YtekpahddcnbnfaaSpP
import Derived.Test.YtekpahddcnbnfaaOpen
import Derived.IntWalk
namespace Go.Proofs.Ytekpahddcnbnfaa
open Go.RowKit Go.ChangeShapes Go.WideShapes Go.ChangeAt Go.Deep Go.Joins
theorem Row.srd {α : Type} {E : Enc α} {w : World} {g : Nat} {e : TypeId} {A : Option Addr} {c : Nat} {l : List α} (h : Row E w g e A c l) : A = none → c = 0 := by
  intro hA
  rcases h with ⟨_, rfl, _⟩ | ⟨cur, hB, _⟩
  · rfl
  · rw [hA] at hB; cases hB
theorem home_in {s : Sp} (h : sparesB s = true) {k : Int} (k0 : 0 ≤ k) (k1 : k < s.sec) : homeB s k = homeGo s.bad s.sec k := by
  have hk : inB k 0 (s.sec - 1) = true := inB_true.2 (by omega)
  simp [homeB, h, hk]
theorem mark_cases (s : Sp) (a : Int) : (markOk s a = false ∧ markB s a = ⟨0, 0, []⟩) ∨ (markOk s a = false ∧ markB s a = s ∧ 1 ≤ s.sec ∧ (s.bad.length : Int) = s.cnt) ∨
    (markOk s a = true ∧ sparesB s = true ∧ 0 ≤ a ∧ a < s.sec ∧ 1 ≤ s.sec ∧ s.sec ≤ 100000 ∧ ∃ x, x = homeGo s.bad s.sec a ∧ markB s a = ⟨s.sec, s.cnt, s.bad ++ [x]⟩ ∧ sparesB ⟨s.sec, s.cnt, s.bad ++ [x]⟩ = true ∧ homeB s a = x ∧ homeB ⟨s.sec, s.cnt, s.bad ++ [x]⟩ a = s.sec + s.bad.length ∧ ∀ k : Int, 0 ≤ k → k < s.sec → k ≠ a → homeB ⟨s.sec, s.cnt, s.bad ++ [x]⟩ k = homeB s k) := by
  cases hs : sparesB s
  · left; simp [markOk, markB, hs]
  · cases hi : inB a 0 (s.sec - 1)
    · left; simp [markOk, markB, hi]
    · obtain ⟨a0, a1⟩ := inB_true.1 hi
      obtain ⟨⟨p0, p1⟩, ⟨p2, p3⟩, p4, -⟩ := spares_parts hs
      by_cases hf : (s.bad.length : Int) = s.cnt
      · right; left
        simp [markOk, markB, hs, hi, hf]
        omega
      · right; right
        obtain ⟨e1, e2, e3⟩ := mark_yes hs hi (by omega)
        rw [e1] at e3
        refine ⟨e2, rfl, a0, by omega, p0, p1, homeGo s.bad s.sec a, rfl, e1, e3, home_in hs a0 (by omega), ?_, ?_⟩
        · rw [home_in e3 a0 (by simp only; omega)]
          simp only
          rw [home_more (by omega), if_pos rfl]
        · intro k k0 k1 kn
          rw [home_in e3 k0 (by simp only; omega), home_in hs k0 k1]
          simp only
          rw [home_more (by omega), if_neg (homes_differ hs (by omega) (by omega) kn)]
theorem dec_refl {α : Type} [DecidableEq α] (a : α) : decide (a = a) = true := by simp
namespace LwMb
set_option maxHeartbeats 8000000 in
theorem walk (A : Option Addr) (c : Nat) (l : List Int) (w : World) (hl : l.length ≤ c) (hm : c ≤ maxLen) (hr : Rd eByte w A l) (hb : ∀ x ∈ l, 0 ≤ x ∧ x ≤ 255) :
    Calls Try.prog 9 #[.slice A l.length c] w fun e w' => e = .returned (.bool true) ∧ Below w.heap.size w w' := by
  have HB := Lib.hid hb
  clear hb
  by_cases hsz : (1048576 : Int) < l.length
  · unfold maxLen at hm
    go_enter Try.func9, Try.ntmps9
    go_wp2
    go_ret
    exact ⟨rfl, (by repeat (first | with_reducible exact Below.refl _ _ | with_reducible assumption | with_reducible refine below_drewN ?_ _ | with_reducible refine Below.drew ?_ | with_reducible refine Below.alloc ?_ ?_ _ | with_reducible refine Below.setCell ?_ ?_ _ | (with_reducible refine Below.next ?_ (by assumption)) | omega | (focus (simp; omega)) | (focus (simp; done))))⟩
  · go_enter Try.func9, Try.ntmps9
    go_wp2_with fail
    refine (drawSm_any A c l _ hl hm hr HB.out).mono ?_
    rintro e w1 ⟨s, A1, c1, g1, n, rfl, hg1, row1, s0, s1, s2, s3, s4, n0, n1, hb1⟩
    have hz1 := hb1.size
    have hlc := row1.le
    have HNIL := Lib.hid row1.srd
    have hcs := mark_cases s n
    have L3 := Loc.newAt w1 [.int .i64 s.sec, .int .i64 s.cnt, .slice A1 s.bad.length c1] 27 (b := w1.heap.size) rfl
    have RA : Hid (Rd eInt (w1.alloc (.cells #[.int .i64 s.sec, .int .i64 s.cnt, .slice A1 s.bad.length c1] 27)) A1 s.bad) := Lib.hid (Rd.alloc row1.rd _)
    have HB1 := Lib.hid hb1
    have hbl10 : (s.bad.length : Int) ≤ 10 := by omega
    clear row1 hb1
    rcases hcs with ⟨hk, hmk⟩ | ⟨hk, hmk, hs1, hfull⟩ | ⟨hk, hsv, a0, a1, p0, p1, x, -, hmk, hxv, hhs, hhx, hoth⟩
    · have HM := Lib.hid hmk
      have HK := Lib.hid hk
      obtain ⟨xb, hxb⟩ : ∃ xb : List Int, xb = ([] : List Int) := ⟨_, rfl⟩
      rw [← hxb] at HM
      have hl1 : xb.length ≤ 0 := by rw [hxb]; simp
      clear hmk hk hxb
      go_wp2_with fail
      refine (implMark_any s A1 c1 n _ RA.out hlc (by omega) HNIL.out).mono ?_
      rw [HM.out, HK.out]
      rintro e w2 ⟨A2, c2, g2, rfl, hg2, row2, hb2⟩
      replace L3 := Loc.carryB L3 (fun h => by ((repeat (first | with_reducible exact h | with_reducible refine Loc.drew ?_ | with_reducible refine Loc.drewN ?_ _ | with_reducible refine Loc.alloc ?_ _)); done)) hb2
      have RA2 := Lib.hid (Rd.below RA.out hb2)
      have RX2 := Lib.hid row2
      have hxc := Lib.hid row2.le
      have HB2 : Hid (Below w.heap.size w w2) := Lib.hid (Below.next (W := w) (by repeat (first | with_reducible exact HB1.out | with_reducible exact Below.refl _ _ | with_reducible refine below_drewN ?_ _ | with_reducible refine Below.drew ?_ | with_reducible refine Below.alloc ?_ ?_ _ | with_reducible refine Below.setCell ?_ ?_ _ | (with_reducible refine Below.next ?_ (by assumption)) | ((with_reducible refine Below.far' (by assumption) ?_ ?_ ?_); (focus (first | omega | (simp; omega) | (simp; done))); (focus (first | omega | (simp; omega) | (simp; done)))) | omega | (focus (simp; omega)) | (focus (simp; done)))) hb2)
      have hz2 := hb2.size
      simp at hz2
      have L5 := Loc.newAt w2 [.int .i64 0, .int .i64 0, .slice A2 (xb).length c2] 27 (b := w2.heap.size) rfl
      obtain ⟨x0, x1, x2, xf⟩ := L3.three
      have z3 := L3.lt
      clear hb2 row2 RA HB1
      go_wp2_with fail
      refine (specMark_any s A1 c1 n _ (by repeat (first | with_reducible exact RA2.out | with_reducible refine Rd.drew ?_ | with_reducible refine Rd.drewN ?_ _ | with_reducible refine Rd.alloc ?_ _ | (with_reducible refine Rd.below ?_ (by assumption)))) (by omega)).mono ?_
      rw [HM.out, HK.out]
      rintro e w3 ⟨A3, c3, g3, rfl, hg3, row3, hb3⟩
      clear x0 x1 x2 xf z3
      replace L3 := Loc.carryB L3 (fun h => by ((repeat (first | with_reducible exact h | with_reducible refine Loc.drew ?_ | with_reducible refine Loc.drewN ?_ _ | with_reducible refine Loc.alloc ?_ _)); done)) hb3
      replace L5 := Loc.carryB L5 (fun h => by ((repeat (first | with_reducible exact h | with_reducible refine Loc.drew ?_ | with_reducible refine Loc.drewN ?_ _ | with_reducible refine Loc.alloc ?_ _)); done)) hb3
      have RA3 : Hid (Rd eInt w3 A1 s.bad) := Lib.hid (Rd.below (by repeat (first | with_reducible exact RA2.out | with_reducible refine Rd.drew ?_ | with_reducible refine Rd.drewN ?_ _ | with_reducible refine Rd.alloc ?_ _ | (with_reducible refine Rd.below ?_ (by assumption)))) hb3)
      have RX3 : Hid (Rd eInt w3 A2 xb) := Lib.hid (Rd.below (by repeat (first | with_reducible exact RX2.out.rd | with_reducible refine Rd.drew ?_ | with_reducible refine Rd.drewN ?_ _ | with_reducible refine Rd.alloc ?_ _ | (with_reducible refine Rd.below ?_ (by assumption)))) hb3)
      have RY3 : Hid (Rd eInt w3 A3 xb) := Lib.hid row3.rd
      have HB3 : Hid (Below w.heap.size w w3) := Lib.hid (Below.next (W := w) (by repeat (first | with_reducible exact HB2.out | with_reducible exact Below.refl _ _ | with_reducible refine below_drewN ?_ _ | with_reducible refine Below.drew ?_ | with_reducible refine Below.alloc ?_ ?_ _ | with_reducible refine Below.setCell ?_ ?_ _ | (with_reducible refine Below.next ?_ (by assumption)) | ((with_reducible refine Below.far' (by assumption) ?_ ?_ ?_); (focus (first | omega | (simp; omega) | (simp; done))); (focus (first | omega | (simp; omega) | (simp; done)))) | omega | (focus (simp; omega)) | (focus (simp; done)))) hb3)
      have hz3 := hb3.size
      simp at hz3
      have L7 := Loc.newAt w3 [.int .i64 0, .int .i64 0, .slice A3 (xb).length c3] 27 (b := w3.heap.size) rfl
      obtain ⟨x0, x1, x2, xf⟩ := L3.three
      obtain ⟨y0, y1, y2, yf⟩ := L5.three
      obtain ⟨u0, u1, u2, uf⟩ := L7.three
      have z3 := L3.lt
      have z5 := L5.lt
      clear hb3 row3 RA2 HB2
      go_wp2_with fail
      refine (sameInts_any A2 A3 c2 c3 xb xb _ (by repeat (first | with_reducible exact RX3.out | with_reducible refine Rd.drew ?_ | with_reducible refine Rd.drewN ?_ _ | with_reducible refine Rd.alloc ?_ _ | (with_reducible refine Rd.below ?_ (by assumption)))) (by repeat (first | with_reducible exact RY3.out | with_reducible refine Rd.drew ?_ | with_reducible refine Rd.drewN ?_ _ | with_reducible refine Rd.alloc ?_ _ | (with_reducible refine Rd.below ?_ (by assumption)))) (by omega) (by omega)).mono ?_
      rw [dec_refl]
      rintro e w4 ⟨rfl, hq4⟩
      have hb4 : Below (w3.heap.size + 1) (w3.alloc (.cells #[.int .i64 0, .int .i64 0, .slice A3 (xb).length c3] 27)) w4 := by obtain ⟨q, rfl⟩ := hq4; exact below_drewN (Below.refl _ _) q
      have hb4' : Below (w3.alloc (.cells #[.int .i64 0, .int .i64 0, .slice A3 (xb).length c3] 27)).heap.size (w3.alloc (.cells #[.int .i64 0, .int .i64 0, .slice A3 (xb).length c3] 27)) w4 := hb4.mono (by simp)
      clear x0 x1 x2 xf y0 y1 y2 yf u0 u1 u2 uf z3 z5 hq4 hb4 L7 RY3
      replace L3 := Loc.carryB L3 (fun h => by ((repeat (first | with_reducible exact h | with_reducible refine Loc.drew ?_ | with_reducible refine Loc.drewN ?_ _ | with_reducible refine Loc.alloc ?_ _)); done)) hb4'
      replace L5 := Loc.carryB L5 (fun h => by ((repeat (first | with_reducible exact h | with_reducible refine Loc.drew ?_ | with_reducible refine Loc.drewN ?_ _ | with_reducible refine Loc.alloc ?_ _)); done)) hb4'
      have RA4 : Hid (Rd eInt w4 A1 s.bad) := Lib.hid (Rd.below (by repeat (first | with_reducible exact RA3.out | with_reducible refine Rd.drew ?_ | with_reducible refine Rd.drewN ?_ _ | with_reducible refine Rd.alloc ?_ _ | (with_reducible refine Rd.below ?_ (by assumption)))) hb4')
      have RX4 : Hid (Rd eInt w4 A2 xb) := Lib.hid (Rd.below (by repeat (first | with_reducible exact RX3.out | with_reducible refine Rd.drew ?_ | with_reducible refine Rd.drewN ?_ _ | with_reducible refine Rd.alloc ?_ _ | (with_reducible refine Rd.below ?_ (by assumption)))) hb4')
      have HB4 : Hid (Below w.heap.size w w4) := Lib.hid (Below.next (W := w) (by repeat (first | with_reducible exact HB3.out | with_reducible exact Below.refl _ _ | with_reducible refine below_drewN ?_ _ | with_reducible refine Below.drew ?_ | with_reducible refine Below.alloc ?_ ?_ _ | with_reducible refine Below.setCell ?_ ?_ _ | (with_reducible refine Below.next ?_ (by assumption)) | ((with_reducible refine Below.far' (by assumption) ?_ ?_ ?_); (focus (first | omega | (simp; omega) | (simp; done))); (focus (first | omega | (simp; omega) | (simp; done)))) | omega | (focus (simp; omega)) | (focus (simp; done)))) hb4')
      obtain ⟨x0, x1, x2, xf⟩ := L3.three
      obtain ⟨y0, y1, y2, yf⟩ := L5.three
      have z3 := L3.lt
      have z5 := L5.lt
      clear hb4' RA3 RX3 HB3
      go_wp2_with (go_at_call 18; refine (alive_any _).mono ?_; rintro e w6 ⟨rfl, hb6⟩)
      go_ret
      exact ⟨rfl, (by repeat (first | with_reducible exact HB4.out | with_reducible exact Below.refl _ _ | with_reducible refine below_drewN ?_ _ | with_reducible refine Below.drew ?_ | with_reducible refine Below.alloc ?_ ?_ _ | with_reducible refine Below.setCell ?_ ?_ _ | (with_reducible refine Below.next ?_ (by assumption)) | ((with_reducible refine Below.far' (by assumption) ?_ ?_ ?_); (focus (first | omega | (simp; omega) | (simp; done))); (focus (first | omega | (simp; omega) | (simp; done)))) | omega | (focus (simp; omega)) | (focus (simp; done))))⟩
    · have HM := Lib.hid hmk
      have HK := Lib.hid hk
      have hf : ((s.bad.length : Int) == s.cnt) = true := by simpa using hfull
      have hs0 : (s.sec == 0) = false := by rw [beq_eq_false_iff_ne]; omega
      clear hmk hk hfull
      go_wp2_with fail
      refine (implMark_any s A1 c1 n _ RA.out hlc (by omega) HNIL.out).mono ?_
      rw [HM.out, HK.out]
      rintro e w2 ⟨A2, c2, g2, rfl, hg2, row2, hb2⟩
      replace L3 := Loc.carryB L3 (fun h => by ((repeat (first | with_reducible exact h | with_reducible refine Loc.drew ?_ | with_reducible refine Loc.drewN ?_ _ | with_reducible refine Loc.alloc ?_ _)); done)) hb2
      have RA2 := Lib.hid (Rd.below RA.out hb2)
      have RX2 := Lib.hid row2
      have hxc := Lib.hid row2.le
      have HB2 : Hid (Below w.heap.size w w2) := Lib.hid (Below.next (W := w) (by repeat (first | with_reducible exact HB1.out | with_reducible exact Below.refl _ _ | with_reducible refine below_drewN ?_ _ | with_reducible refine Below.drew ?_ | with_reducible refine Below.alloc ?_ ?_ _ | with_reducible refine Below.setCell ?_ ?_ _ | (with_reducible refine Below.next ?_ (by assumption)) | ((with_reducible refine Below.far' (by assumption) ?_ ?_ ?_); (focus (first | omega | (simp; omega) | (simp; done))); (focus (first | omega | (simp; omega) | (simp; done)))) | omega | (focus (simp; omega)) | (focus (simp; done)))) hb2)
      have hz2 := hb2.size
      simp at hz2
      have L5 := Loc.newAt w2 [.int .i64 s.sec, .int .i64 s.cnt, .slice A2 (s.bad).length c2] 27 (b := w2.heap.size) rfl
      obtain ⟨x0, x1, x2, xf⟩ := L3.three
      have z3 := L3.lt
      clear hb2 row2 RA HB1
      go_wp2_with fail
      refine (specMark_any s A1 c1 n _ (by repeat (first | with_reducible exact RA2.out | with_reducible refine Rd.drew ?_ | with_reducible refine Rd.drewN ?_ _ | with_reducible refine Rd.alloc ?_ _ | (with_reducible refine Rd.below ?_ (by assumption)))) (by omega)).mono ?_
      rw [HM.out, HK.out]
      rintro e w3 ⟨A3, c3, g3, rfl, hg3, row3, hb3⟩
      clear x0 x1 x2 xf z3
      replace L3 := Loc.carryB L3 (fun h => by ((repeat (first | with_reducible exact h | with_reducible refine Loc.drew ?_ | with_reducible refine Loc.drewN ?_ _ | with_reducible refine Loc.alloc ?_ _)); done)) hb3
      replace L5 := Loc.carryB L5 (fun h => by ((repeat (first | with_reducible exact h | with_reducible refine Loc.drew ?_ | with_reducible refine Loc.drewN ?_ _ | with_reducible refine Loc.alloc ?_ _)); done)) hb3
      have RA3 : Hid (Rd eInt w3 A1 s.bad) := Lib.hid (Rd.below (by repeat (first | with_reducible exact RA2.out | with_reducible refine Rd.drew ?_ | with_reducible refine Rd.drewN ?_ _ | with_reducible refine Rd.alloc ?_ _ | (with_reducible refine Rd.below ?_ (by assumption)))) hb3)
      have RX3 : Hid (Rd eInt w3 A2 s.bad) := Lib.hid (Rd.below (by repeat (first | with_reducible exact RX2.out.rd | with_reducible refine Rd.drew ?_ | with_reducible refine Rd.drewN ?_ _ | with_reducible refine Rd.alloc ?_ _ | (with_reducible refine Rd.below ?_ (by assumption)))) hb3)
      have RY3 : Hid (Rd eInt w3 A3 s.bad) := Lib.hid row3.rd
      have HB3 : Hid (Below w.heap.size w w3) := Lib.hid (Below.next (W := w) (by repeat (first | with_reducible exact HB2.out | with_reducible exact Below.refl _ _ | with_reducible refine below_drewN ?_ _ | with_reducible refine Below.drew ?_ | with_reducible refine Below.alloc ?_ ?_ _ | with_reducible refine Below.setCell ?_ ?_ _ | (with_reducible refine Below.next ?_ (by assumption)) | ((with_reducible refine Below.far' (by assumption) ?_ ?_ ?_); (focus (first | omega | (simp; omega) | (simp; done))); (focus (first | omega | (simp; omega) | (simp; done)))) | omega | (focus (simp; omega)) | (focus (simp; done)))) hb3)
      have hz3 := hb3.size
      simp at hz3
      have L7 := Loc.newAt w3 [.int .i64 s.sec, .int .i64 s.cnt, .slice A3 (s.bad).length c3] 27 (b := w3.heap.size) rfl
      obtain ⟨x0, x1, x2, xf⟩ := L3.three
      obtain ⟨y0, y1, y2, yf⟩ := L5.three
      obtain ⟨u0, u1, u2, uf⟩ := L7.three
      have z3 := L3.lt
      have z5 := L5.lt
      clear hb3 row3 RA2 HB2
      go_wp2_with fail
      refine (sameInts_any A2 A3 c2 c3 s.bad s.bad _ (by repeat (first | with_reducible exact RX3.out | with_reducible refine Rd.drew ?_ | with_reducible refine Rd.drewN ?_ _ | with_reducible refine Rd.alloc ?_ _ | (with_reducible refine Rd.below ?_ (by assumption)))) (by repeat (first | with_reducible exact RY3.out | with_reducible refine Rd.drew ?_ | with_reducible refine Rd.drewN ?_ _ | with_reducible refine Rd.alloc ?_ _ | (with_reducible refine Rd.below ?_ (by assumption)))) (by omega) (by omega)).mono ?_
      rw [dec_refl]
      rintro e w4 ⟨rfl, hq4⟩
      have hb4 : Below (w3.heap.size + 1) (w3.alloc (.cells #[.int .i64 s.sec, .int .i64 s.cnt, .slice A3 (s.bad).length c3] 27)) w4 := by obtain ⟨q, rfl⟩ := hq4; exact below_drewN (Below.refl _ _) q
      have hb4' : Below (w3.alloc (.cells #[.int .i64 s.sec, .int .i64 s.cnt, .slice A3 (s.bad).length c3] 27)).heap.size (w3.alloc (.cells #[.int .i64 s.sec, .int .i64 s.cnt, .slice A3 (s.bad).length c3] 27)) w4 := hb4.mono (by simp)
      clear x0 x1 x2 xf y0 y1 y2 yf u0 u1 u2 uf z3 z5 hq4 hb4 L7 RY3
      replace L3 := Loc.carryB L3 (fun h => by ((repeat (first | with_reducible exact h | with_reducible refine Loc.drew ?_ | with_reducible refine Loc.drewN ?_ _ | with_reducible refine Loc.alloc ?_ _)); done)) hb4'
      replace L5 := Loc.carryB L5 (fun h => by ((repeat (first | with_reducible exact h | with_reducible refine Loc.drew ?_ | with_reducible refine Loc.drewN ?_ _ | with_reducible refine Loc.alloc ?_ _)); done)) hb4'
      have RA4 : Hid (Rd eInt w4 A1 s.bad) := Lib.hid (Rd.below (by repeat (first | with_reducible exact RA3.out | with_reducible refine Rd.drew ?_ | with_reducible refine Rd.drewN ?_ _ | with_reducible refine Rd.alloc ?_ _ | (with_reducible refine Rd.below ?_ (by assumption)))) hb4')
      have RX4 : Hid (Rd eInt w4 A2 s.bad) := Lib.hid (Rd.below (by repeat (first | with_reducible exact RX3.out | with_reducible refine Rd.drew ?_ | with_reducible refine Rd.drewN ?_ _ | with_reducible refine Rd.alloc ?_ _ | (with_reducible refine Rd.below ?_ (by assumption)))) hb4')
      have HB4 : Hid (Below w.heap.size w w4) := Lib.hid (Below.next (W := w) (by repeat (first | with_reducible exact HB3.out | with_reducible exact Below.refl _ _ | with_reducible refine below_drewN ?_ _ | with_reducible refine Below.drew ?_ | with_reducible refine Below.alloc ?_ ?_ _ | with_reducible refine Below.setCell ?_ ?_ _ | (with_reducible refine Below.next ?_ (by assumption)) | ((with_reducible refine Below.far' (by assumption) ?_ ?_ ?_); (focus (first | omega | (simp; omega) | (simp; done))); (focus (first | omega | (simp; omega) | (simp; done)))) | omega | (focus (simp; omega)) | (focus (simp; done)))) hb4')
      obtain ⟨x0, x1, x2, xf⟩ := L3.three
      obtain ⟨y0, y1, y2, yf⟩ := L5.three
      have z3 := L3.lt
      have z5 := L5.lt
      clear hb4' RA3 RX3 HB3
      go_wp2_with (first
        | (go_at_call 25; refine (sameInts_any A2 A1 c2 c1 s.bad s.bad _ RX4.out RA4.out (by omega) (by omega)).mono ?_; rw [dec_refl]; rintro e w5 ⟨rfl, q5, rfl⟩)
        | (go_at_call 18; refine (alive_any _).mono ?_; rintro e w6 ⟨rfl, hb6⟩))
      go_ret
      exact ⟨rfl, (by repeat (first | with_reducible exact HB4.out | with_reducible exact Below.refl _ _ | with_reducible refine below_drewN ?_ _ | with_reducible refine Below.drew ?_ | with_reducible refine Below.alloc ?_ ?_ _ | with_reducible refine Below.setCell ?_ ?_ _ | (with_reducible refine Below.next ?_ (by assumption)) | ((with_reducible refine Below.far' (by assumption) ?_ ?_ ?_); (focus (first | omega | (simp; omega) | (simp; done))); (focus (first | omega | (simp; omega) | (simp; done)))) | omega | (focus (simp; omega)) | (focus (simp; done))))⟩
    · have HM := Lib.hid hmk
      have HK := Lib.hid hk
      have HXV := Lib.hid hxv
      have HHS := Lib.hid hhs
      have HHX := Lib.hid hhx
      have HOTH := Lib.hid hoth
      have HSV := Lib.hid hsv
      have hlen : ((s.bad ++ [x]).length : Int) = s.bad.length + 1 := by simp
      have hl1 : (s.bad ++ [x]).length ≤ 11 := by simp; omega
      have hl2 : s.bad.length + 1 ≤ (s.bad ++ [x]).length := by simp
      have HLX : Hid (∀ h : s.bad.length < (s.bad ++ [x]).length, (s.bad ++ [x])[s.bad.length] = x) := Lib.hid fun h => by simp
      obtain ⟨xb, hxb⟩ : ∃ xb, xb = s.bad ++ [x] := ⟨_, rfl⟩
      rw [← hxb] at HM HXV HHX HOTH hl1 hl2 HLX
      clear hmk hk hsv hxv hhs hhx hoth hlen hxb
      go_wp2_with fail
      refine (implMark_any s A1 c1 n _ RA.out hlc (by omega) HNIL.out).mono ?_
      rw [HM.out, HK.out]
      rintro e w2 ⟨A2, c2, g2, rfl, hg2, row2, hb2⟩
      replace L3 := Loc.carryB L3 (fun h => by ((repeat (first | with_reducible exact h | with_reducible refine Loc.drew ?_ | with_reducible refine Loc.drewN ?_ _ | with_reducible refine Loc.alloc ?_ _)); done)) hb2
      have RA2 := Lib.hid (Rd.below RA.out hb2)
      have RX2 := Lib.hid row2
      have hxc := Lib.hid row2.le
      have HB2 : Hid (Below w.heap.size w w2) := Lib.hid (Below.next (W := w) (by repeat (first | with_reducible exact HB1.out | with_reducible exact Below.refl _ _ | with_reducible refine below_drewN ?_ _ | with_reducible refine Below.drew ?_ | with_reducible refine Below.alloc ?_ ?_ _ | with_reducible refine Below.setCell ?_ ?_ _ | (with_reducible refine Below.next ?_ (by assumption)) | ((with_reducible refine Below.far' (by assumption) ?_ ?_ ?_); (focus (first | omega | (simp; omega) | (simp; done))); (focus (first | omega | (simp; omega) | (simp; done)))) | omega | (focus (simp; omega)) | (focus (simp; done)))) hb2)
      have hz2 := hb2.size
      simp at hz2
      have L5 := Loc.newAt w2 [.int .i64 s.sec, .int .i64 s.cnt, .slice A2 (xb).length c2] 27 (b := w2.heap.size) rfl
      obtain ⟨x0, x1, x2, xf⟩ := L3.three
      have z3 := L3.lt
      clear hb2 row2 RA HB1
      go_wp2_with fail
      refine (specMark_any s A1 c1 n _ (by repeat (first | with_reducible exact RA2.out | with_reducible refine Rd.drew ?_ | with_reducible refine Rd.drewN ?_ _ | with_reducible refine Rd.alloc ?_ _ | (with_reducible refine Rd.below ?_ (by assumption)))) (by omega)).mono ?_
      rw [HM.out, HK.out]
      rintro e w3 ⟨A3, c3, g3, rfl, hg3, row3, hb3⟩
      clear x0 x1 x2 xf z3
      replace L3 := Loc.carryB L3 (fun h => by ((repeat (first | with_reducible exact h | with_reducible refine Loc.drew ?_ | with_reducible refine Loc.drewN ?_ _ | with_reducible refine Loc.alloc ?_ _)); done)) hb3
      replace L5 := Loc.carryB L5 (fun h => by ((repeat (first | with_reducible exact h | with_reducible refine Loc.drew ?_ | with_reducible refine Loc.drewN ?_ _ | with_reducible refine Loc.alloc ?_ _)); done)) hb3
      have RA3 : Hid (Rd eInt w3 A1 s.bad) := Lib.hid (Rd.below (by repeat (first | with_reducible exact RA2.out | with_reducible refine Rd.drew ?_ | with_reducible refine Rd.drewN ?_ _ | with_reducible refine Rd.alloc ?_ _ | (with_reducible refine Rd.below ?_ (by assumption)))) hb3)
      have RX3 : Hid (Rd eInt w3 A2 xb) := Lib.hid (Rd.below (by repeat (first | with_reducible exact RX2.out.rd | with_reducible refine Rd.drew ?_ | with_reducible refine Rd.drewN ?_ _ | with_reducible refine Rd.alloc ?_ _ | (with_reducible refine Rd.below ?_ (by assumption)))) hb3)
      have RY3 : Hid (Rd eInt w3 A3 xb) := Lib.hid row3.rd
      have HB3 : Hid (Below w.heap.size w w3) := Lib.hid (Below.next (W := w) (by repeat (first | with_reducible exact HB2.out | with_reducible exact Below.refl _ _ | with_reducible refine below_drewN ?_ _ | with_reducible refine Below.drew ?_ | with_reducible refine Below.alloc ?_ ?_ _ | with_reducible refine Below.setCell ?_ ?_ _ | (with_reducible refine Below.next ?_ (by assumption)) | ((with_reducible refine Below.far' (by assumption) ?_ ?_ ?_); (focus (first | omega | (simp; omega) | (simp; done))); (focus (first | omega | (simp; omega) | (simp; done)))) | omega | (focus (simp; omega)) | (focus (simp; done)))) hb3)
      have hz3 := hb3.size
      simp at hz3
      have L7 := Loc.newAt w3 [.int .i64 s.sec, .int .i64 s.cnt, .slice A3 (xb).length c3] 27 (b := w3.heap.size) rfl
      obtain ⟨x0, x1, x2, xf⟩ := L3.three
      obtain ⟨y0, y1, y2, yf⟩ := L5.three
      obtain ⟨u0, u1, u2, uf⟩ := L7.three
      have z3 := L3.lt
      have z5 := L5.lt
      clear hb3 row3 RA2 HB2
      go_wp2_with fail
      refine (sameInts_any A2 A3 c2 c3 xb xb _ (by repeat (first | with_reducible exact RX3.out | with_reducible refine Rd.drew ?_ | with_reducible refine Rd.drewN ?_ _ | with_reducible refine Rd.alloc ?_ _ | (with_reducible refine Rd.below ?_ (by assumption)))) (by repeat (first | with_reducible exact RY3.out | with_reducible refine Rd.drew ?_ | with_reducible refine Rd.drewN ?_ _ | with_reducible refine Rd.alloc ?_ _ | (with_reducible refine Rd.below ?_ (by assumption)))) (by omega) (by omega)).mono ?_
      rw [dec_refl]
      rintro e w4 ⟨rfl, hq4⟩
      have hb4 : Below (w3.heap.size + 1) (w3.alloc (.cells #[.int .i64 s.sec, .int .i64 s.cnt, .slice A3 (xb).length c3] 27)) w4 := by obtain ⟨q, rfl⟩ := hq4; exact below_drewN (Below.refl _ _) q
      have hb4' : Below (w3.alloc (.cells #[.int .i64 s.sec, .int .i64 s.cnt, .slice A3 (xb).length c3] 27)).heap.size (w3.alloc (.cells #[.int .i64 s.sec, .int .i64 s.cnt, .slice A3 (xb).length c3] 27)) w4 := hb4.mono (by simp)
      clear x0 x1 x2 xf y0 y1 y2 yf u0 u1 u2 uf z3 z5 hq4 hb4 L7 RY3
      replace L3 := Loc.carryB L3 (fun h => by ((repeat (first | with_reducible exact h | with_reducible refine Loc.drew ?_ | with_reducible refine Loc.drewN ?_ _ | with_reducible refine Loc.alloc ?_ _)); done)) hb4'
      replace L5 := Loc.carryB L5 (fun h => by ((repeat (first | with_reducible exact h | with_reducible refine Loc.drew ?_ | with_reducible refine Loc.drewN ?_ _ | with_reducible refine Loc.alloc ?_ _)); done)) hb4'
      have RA4 : Hid (Rd eInt w4 A1 s.bad) := Lib.hid (Rd.below (by repeat (first | with_reducible exact RA3.out | with_reducible refine Rd.drew ?_ | with_reducible refine Rd.drewN ?_ _ | with_reducible refine Rd.alloc ?_ _ | (with_reducible refine Rd.below ?_ (by assumption)))) hb4')
      have RX4 : Hid (Rd eInt w4 A2 xb) := Lib.hid (Rd.below (by repeat (first | with_reducible exact RX3.out | with_reducible refine Rd.drew ?_ | with_reducible refine Rd.drewN ?_ _ | with_reducible refine Rd.alloc ?_ _ | (with_reducible refine Rd.below ?_ (by assumption)))) hb4')
      have HB4 : Hid (Below w.heap.size w w4) := Lib.hid (Below.next (W := w) (by repeat (first | with_reducible exact HB3.out | with_reducible exact Below.refl _ _ | with_reducible refine below_drewN ?_ _ | with_reducible refine Below.drew ?_ | with_reducible refine Below.alloc ?_ ?_ _ | with_reducible refine Below.setCell ?_ ?_ _ | (with_reducible refine Below.next ?_ (by assumption)) | ((with_reducible refine Below.far' (by assumption) ?_ ?_ ?_); (focus (first | omega | (simp; omega) | (simp; done))); (focus (first | omega | (simp; omega) | (simp; done)))) | omega | (focus (simp; omega)) | (focus (simp; done)))) hb4')
      obtain ⟨x0, x1, x2, xf⟩ := L3.three
      obtain ⟨y0, y1, y2, yf⟩ := L5.three
      have z3 := L3.lt
      have z5 := L5.lt
      clear hb4' RA3 RX3 HB3
      go_wp2_with fail
      clear x0 x1 x2 xf y0 y1 y2 yf
      go_loopw [9] (fun i wr => ∃ k : Nat, (k : Int) ≤ s.sec ∧ k ≤ 40 ∧ i = .int .i64 k ∧ Below w4.heap.size w4 wr) (fun i _ => 40 - (intOf i).toNat)
      case atStart => exact ⟨0, by omega, by omega, rfl, Below.refl _ _⟩
      case round =>
        obtain ⟨k, hk, hk40, rfl, hbr⟩ := hrel
        have LR3 := Loc.below L3 hbr
        have LR5 := Loc.below L5 hbr
        have zR3 := LR3.lt
        have zR5 := LR5.lt
        obtain ⟨x0, x1, x2, xf⟩ := LR3.three
        obtain ⟨y0, y1, y2, yf⟩ := LR5.three
        have RRA := Lib.hid (Rd.below RA4.out hbr)
        have RRX := Lib.hid (Rd.below RX4.out hbr)
        have HBX := Lib.hid hbr
        have HBR : Hid (Below w.heap.size w wr) := Lib.hid (Below.next (W := w) HB4.out hbr)
        clear hbr
        by_cases hcont : (k : Int) < s.sec ∧ k < 40
        · obtain ⟨hlt, hlt2⟩ := hcont
          have hlt3 : (k : Int) < 40 := by omega
          by_cases hkn : (k : Int) = n
          · have hkn2 : ((k : Int) != n) = false := by simpa using hkn
            clear hkn
            go_wp2
            go_quiet (fail)
            go_wp2
            go_roundw
            case rel => exact ⟨k + 1, by omega, by omega, by go_num, (by repeat (first | with_reducible exact HBX.out | with_reducible exact Below.refl _ _ | with_reducible refine below_drewN ?_ _ | with_reducible refine Below.drew ?_ | with_reducible refine Below.alloc ?_ ?_ _ | with_reducible refine Below.setCell ?_ ?_ _ | (with_reducible refine Below.next ?_ (by assumption)) | ((with_reducible refine Below.far' (by assumption) ?_ ?_ ?_); (focus (first | omega | (simp; omega) | (simp; done))); (focus (first | omega | (simp; omega) | (simp; done)))) | omega | (focus (simp; omega)) | (focus (simp; done))))⟩
            case measure => simp [intOf]; omega
          · have hkn2 : ((k : Int) != n) = true := by simpa using hkn
            have hot := HOTH.out k (by omega) hlt hkn
            obtain ⟨z, hz⟩ : ∃ z, z = homeB s k := ⟨_, rfl⟩
            have HZ := Lib.hid hz
            rw [← hz] at hot
            have HOT := Lib.hid hot
            clear hkn hz hot
            go_wp2
            go_region_held3 (fun w' => w'.cell? ⟨w1.heap.size, 0, none⟩ = some (.int .i64 s.sec) ∧ w'.cell? ⟨w1.heap.size, 1, none⟩ = some (.int .i64 s.cnt) ∧ w'.cell? ⟨w1.heap.size, 2, none⟩ = some (.slice A1 s.bad.length c1) ∧ w'.cell? ⟨w2.heap.size, 0, none⟩ = some (.int .i64 s.sec) ∧ w'.cell? ⟨w2.heap.size, 1, none⟩ = some (.int .i64 s.cnt) ∧ w'.cell? ⟨w2.heap.size, 2, none⟩ = some (.slice A2 xb.length c2)) (first | assumption | (refine ⟨?_, ?_, ?_, ?_, ?_, ?_⟩ <;> assumption) | (refine ⟨?_, ?_, ?_, ?_, ?_, ?_⟩ <;> (simp [go_sem, *]; done)) | go_keep)
              (first
                | (go_at_call 16; (with_reducible refine (implHome_any ⟨s.sec, s.cnt, xb⟩ A2 c2 (k : Int) _ (Rd.drew RRX.out) hxc.out (by simp only; omega)).mono ?_); rw [HOT.out]; rintro e w5 ⟨rfl, hb5⟩; have L35 := Loc.carryB LR3 (fun h => by ((repeat (first | with_reducible exact h | with_reducible refine Loc.drew ?_ | with_reducible refine Loc.drewN ?_ _ | with_reducible refine Loc.alloc ?_ _)); done)) hb5; have L55 := Loc.carryB LR5 (fun h => by ((repeat (first | with_reducible exact h | with_reducible refine Loc.drew ?_ | with_reducible refine Loc.drewN ?_ _ | with_reducible refine Loc.alloc ?_ _)); done)) hb5; obtain ⟨i0, i1, i2, if0⟩ := L35.three; obtain ⟨j0, j1, j2, jf⟩ := L55.three; have RRA5 := Lib.hid (Rd.below (Rd.drew RRA.out) hb5); have HB5 : Hid (Below w4.heap.size w4 w5) := Lib.hid (Below.next (W := w4) (by repeat (first | with_reducible exact HBX.out | with_reducible exact Below.refl _ _ | with_reducible refine below_drewN ?_ _ | with_reducible refine Below.drew ?_ | with_reducible refine Below.alloc ?_ ?_ _ | with_reducible refine Below.setCell ?_ ?_ _ | (with_reducible refine Below.next ?_ (by assumption)) | ((with_reducible refine Below.far' (by assumption) ?_ ?_ ?_); (focus (first | omega | (simp; omega) | (simp; done))); (focus (first | omega | (simp; omega) | (simp; done)))) | omega | (focus (simp; omega)) | (focus (simp; done)))) hb5); clear hb5)
                | (go_at_call 16; (with_reducible refine (implHome_any s A1 c1 (k : Int) _ RRA5.out hlc (by omega)).mono ?_); rw [← HZ.out]; rintro e w6 ⟨rfl, hb6⟩; have L36 := Loc.carryB L35 (fun h => by ((repeat (first | with_reducible exact h | with_reducible refine Loc.drew ?_ | with_reducible refine Loc.drewN ?_ _ | with_reducible refine Loc.alloc ?_ _)); done)) hb6; have L56 := Loc.carryB L55 (fun h => by ((repeat (first | with_reducible exact h | with_reducible refine Loc.drew ?_ | with_reducible refine Loc.drewN ?_ _ | with_reducible refine Loc.alloc ?_ _)); done)) hb6; obtain ⟨p0', p1', p2', pf'⟩ := L36.three; obtain ⟨q0', q1', q2', qf'⟩ := L56.three; have HB6 : Hid (Below w4.heap.size w4 w6) := Lib.hid (Below.next (W := w4) HB5.out hb6); clear hb6))
            all_goals
              go_wp2
              go_roundw
              case rel => exact ⟨k + 1, by omega, by omega, by go_num, HB6.out⟩
              case measure => simp [intOf]; omega
        · have hcase : ¬ ((k : Int) < s.sec) ∨ ((k : Int) < s.sec ∧ ¬ ((k : Int) < 40)) := by omega
          have hlx : s.bad.length < xb.length := by omega
          obtain ⟨b2, off2, rfl, hbl2, hcx⟩ := RRX.out.int hlx
          rw [HLX.out hlx] at hcx
          have hi0 : (0 : Int) ≤ (s.bad.length : Int) := by omega
          have hi1 : (s.bad.length : Int) < (xb.length : Int) := by omega
          have hw1 : IntKind.i64.wrap (s.sec + (s.bad.length : Int)) = s.sec + (s.bad.length : Int) := IntWalk.i64_in _ (by omega)
          clear hcont
          rcases hcase with hc1 | ⟨hc1, hc2⟩
          all_goals
            go_wp2
            go_region_held3 (fun w' => w'.cell? ⟨w1.heap.size, 0, none⟩ = some (.int .i64 s.sec) ∧ w'.cell? ⟨w1.heap.size, 1, none⟩ = some (.int .i64 s.cnt) ∧ w'.cell? ⟨w1.heap.size, 2, none⟩ = some (.slice A1 s.bad.length c1) ∧ w'.cell? ⟨w2.heap.size, 0, none⟩ = some (.int .i64 s.sec) ∧ w'.cell? ⟨w2.heap.size, 1, none⟩ = some (.int .i64 s.cnt) ∧ w'.cell? ⟨w2.heap.size, 2, none⟩ = some (.slice (some ⟨b2, off2, none⟩) xb.length c2) ∧ w'.cell? ⟨b2, off2 + s.bad.length, none⟩ = some (.int .i64 x)) (first | assumption | (refine ⟨?_, ?_, ?_, ?_, ?_, ?_, ?_⟩ <;> assumption) | (refine ⟨?_, ?_, ?_, ?_, ?_, ?_, ?_⟩ <;> (simp [go_sem, *]; done)) | go_keep)
              (first
                | (go_at_call 13; (with_reducible refine (implSpares_any ⟨s.sec, s.cnt, xb⟩ (some ⟨b2, off2, none⟩) c2 _ (Rd.drew RRX.out) hxc.out (by simp only; omega)).mono ?_); rw [HXV.out]; rintro e w5 ⟨rfl, hb5⟩; have LA5 := Loc.carryB LR3 (fun h => by ((repeat (first | with_reducible exact h | with_reducible refine Loc.drew ?_ | with_reducible refine Loc.drewN ?_ _ | with_reducible refine Loc.alloc ?_ _)); done)) hb5; have LB5 := Loc.carryB LR5 (fun h => by ((repeat (first | with_reducible exact h | with_reducible refine Loc.drew ?_ | with_reducible refine Loc.drewN ?_ _ | with_reducible refine Loc.alloc ?_ _)); done)) hb5; obtain ⟨ca05, ca15, ca25, caf5⟩ := LA5.three; obtain ⟨cb05, cb15, cb25, cbf5⟩ := LB5.three; have RA5 : Hid (Rd eInt w5 A1 s.bad) := Lib.hid (Rd.below (by repeat (first | with_reducible exact RRA.out | with_reducible refine Rd.drew ?_ | with_reducible refine Rd.drewN ?_ _ | with_reducible refine Rd.alloc ?_ _ | (with_reducible refine Rd.below ?_ (by assumption)))) hb5); have RX5 : Hid (Rd eInt w5 (some ⟨b2, off2, none⟩) xb) := Lib.hid (Rd.below (by repeat (first | with_reducible exact RRX.out | with_reducible refine Rd.drew ?_ | with_reducible refine Rd.drewN ?_ _ | with_reducible refine Rd.alloc ?_ _ | (with_reducible refine Rd.below ?_ (by assumption)))) hb5); have HB5 : Hid (Below w.heap.size w w5) := Lib.hid (Below.next (W := w) (by repeat (first | with_reducible exact HBR.out | with_reducible exact Below.refl _ _ | with_reducible refine below_drewN ?_ _ | with_reducible refine Below.drew ?_ | with_reducible refine Below.alloc ?_ ?_ _ | with_reducible refine Below.setCell ?_ ?_ _ | (with_reducible refine Below.next ?_ (by assumption)) | ((with_reducible refine Below.far' (by assumption) ?_ ?_ ?_); (focus (first | omega | (simp; omega) | (simp; done))); (focus (first | omega | (simp; omega) | (simp; done)))) | omega | (focus (simp; omega)) | (focus (simp; done)))) hb5); obtain ⟨hd5, -⟩ := bcell (Below.next (W := wr) (by repeat (first | with_reducible exact Below.refl _ _ | with_reducible refine below_drewN ?_ _ | with_reducible refine Below.drew ?_ | with_reducible refine Below.alloc ?_ ?_ _ | with_reducible refine Below.setCell ?_ ?_ _ | omega | (focus (simp; omega)) | (focus (simp; done)))) hb5); have hcx5 := (hd5 b2 (off2 + s.bad.length) (by first | assumption | omega)).trans hcx; have hbl25 : b2 < w5.heap.size := (by have := hb5.size; (try simp at this); omega); clear hd5 hb5)
                | (go_at_call 16; (with_reducible refine (implHome_any ⟨s.sec, s.cnt, xb⟩ (some ⟨b2, off2, none⟩) c2 n _ RX5.out hxc.out (by simp only; omega)).mono ?_); rw [HHX.out]; rintro e w6 ⟨rfl, hb6⟩; have LA6 := Loc.carryB LA5 (fun h => by ((repeat (first | with_reducible exact h | with_reducible refine Loc.drew ?_ | with_reducible refine Loc.drewN ?_ _ | with_reducible refine Loc.alloc ?_ _)); done)) hb6; have LB6 := Loc.carryB LB5 (fun h => by ((repeat (first | with_reducible exact h | with_reducible refine Loc.drew ?_ | with_reducible refine Loc.drewN ?_ _ | with_reducible refine Loc.alloc ?_ _)); done)) hb6; obtain ⟨ca06, ca16, ca26, caf6⟩ := LA6.three; obtain ⟨cb06, cb16, cb26, cbf6⟩ := LB6.three; have RA6 : Hid (Rd eInt w6 A1 s.bad) := Lib.hid (Rd.below (by repeat (first | with_reducible exact RA5.out | with_reducible refine Rd.drew ?_ | with_reducible refine Rd.drewN ?_ _ | with_reducible refine Rd.alloc ?_ _ | (with_reducible refine Rd.below ?_ (by assumption)))) hb6); have RX6 : Hid (Rd eInt w6 (some ⟨b2, off2, none⟩) xb) := Lib.hid (Rd.below (by repeat (first | with_reducible exact RX5.out | with_reducible refine Rd.drew ?_ | with_reducible refine Rd.drewN ?_ _ | with_reducible refine Rd.alloc ?_ _ | (with_reducible refine Rd.below ?_ (by assumption)))) hb6); have HB6 : Hid (Below w.heap.size w w6) := Lib.hid (Below.next (W := w) (by repeat (first | with_reducible exact HB5.out | with_reducible exact Below.refl _ _ | with_reducible refine below_drewN ?_ _ | with_reducible refine Below.drew ?_ | with_reducible refine Below.alloc ?_ ?_ _ | with_reducible refine Below.setCell ?_ ?_ _ | (with_reducible refine Below.next ?_ (by assumption)) | ((with_reducible refine Below.far' (by assumption) ?_ ?_ ?_); (focus (first | omega | (simp; omega) | (simp; done))); (focus (first | omega | (simp; omega) | (simp; done)))) | omega | (focus (simp; omega)) | (focus (simp; done)))) hb6); obtain ⟨hd6, -⟩ := bcell (Below.next (W := w5) (by repeat (first | with_reducible exact Below.refl _ _ | with_reducible refine below_drewN ?_ _ | with_reducible refine Below.drew ?_ | with_reducible refine Below.alloc ?_ ?_ _ | with_reducible refine Below.setCell ?_ ?_ _ | omega | (focus (simp; omega)) | (focus (simp; done)))) hb6); have hcx6 := (hd6 b2 (off2 + s.bad.length) (by first | assumption | omega)).trans hcx5; have hbl26 : b2 < w6.heap.size := (by have := hb6.size; (try simp at this); omega); clear hd6 hb6)
                | (go_at_call 16; (with_reducible refine (implHome_any s A1 c1 n _ RA6.out hlc (by omega)).mono ?_); rw [HHS.out]; rintro e w7 ⟨rfl, hb7⟩; have LA7 := Loc.carryB LA6 (fun h => by ((repeat (first | with_reducible exact h | with_reducible refine Loc.drew ?_ | with_reducible refine Loc.drewN ?_ _ | with_reducible refine Loc.alloc ?_ _)); done)) hb7; have LB7 := Loc.carryB LB6 (fun h => by ((repeat (first | with_reducible exact h | with_reducible refine Loc.drew ?_ | with_reducible refine Loc.drewN ?_ _ | with_reducible refine Loc.alloc ?_ _)); done)) hb7; obtain ⟨ca07, ca17, ca27, caf7⟩ := LA7.three; obtain ⟨cb07, cb17, cb27, cbf7⟩ := LB7.three; have RA7 : Hid (Rd eInt w7 A1 s.bad) := Lib.hid (Rd.below (by repeat (first | with_reducible exact RA6.out | with_reducible refine Rd.drew ?_ | with_reducible refine Rd.drewN ?_ _ | with_reducible refine Rd.alloc ?_ _ | (with_reducible refine Rd.below ?_ (by assumption)))) hb7); have RX7 : Hid (Rd eInt w7 (some ⟨b2, off2, none⟩) xb) := Lib.hid (Rd.below (by repeat (first | with_reducible exact RX6.out | with_reducible refine Rd.drew ?_ | with_reducible refine Rd.drewN ?_ _ | with_reducible refine Rd.alloc ?_ _ | (with_reducible refine Rd.below ?_ (by assumption)))) hb7); have HB7 : Hid (Below w.heap.size w w7) := Lib.hid (Below.next (W := w) (by repeat (first | with_reducible exact HB6.out | with_reducible exact Below.refl _ _ | with_reducible refine below_drewN ?_ _ | with_reducible refine Below.drew ?_ | with_reducible refine Below.alloc ?_ ?_ _ | with_reducible refine Below.setCell ?_ ?_ _ | (with_reducible refine Below.next ?_ (by assumption)) | ((with_reducible refine Below.far' (by assumption) ?_ ?_ ?_); (focus (first | omega | (simp; omega) | (simp; done))); (focus (first | omega | (simp; omega) | (simp; done)))) | omega | (focus (simp; omega)) | (focus (simp; done)))) hb7); obtain ⟨hd7, -⟩ := bcell (Below.next (W := w6) (by repeat (first | with_reducible exact Below.refl _ _ | with_reducible refine below_drewN ?_ _ | with_reducible refine Below.drew ?_ | with_reducible refine Below.alloc ?_ ?_ _ | with_reducible refine Below.setCell ?_ ?_ _ | omega | (focus (simp; omega)) | (focus (simp; done)))) hb7); have hcx7 := (hd7 b2 (off2 + s.bad.length) (by first | assumption | omega)).trans hcx6; have hbl27 : b2 < w7.heap.size := (by have := hb7.size; (try simp at this); omega); clear hd7 hb7))
            all_goals
              go_wp2
              go_ret
              exact ⟨rfl, HB7.out⟩
set_option maxRecDepth 100000 in
theorem lifted (os : Os) (started : os.Started) (H : Type) (enc : TypeId × Value → H) :
    ReturnsInHanded {} Try.checked os 9 .any (Rows.fnMarkBadSpec.pre6 enc Try.prog Try.f9 Rows.fnMarkBadRow.domain false) (Rows.fnMarkBadSpec.post enc Try.prog Try.f9 false true false false) := by
  refine returnsInHanded_of_change (C := Try.checked) own_knob started (by kernel_rfl) Try.func9
    (ChangeSpec.witness6 (enc := enc) (C := Try.checked) false ⟨#[], #[.slice none 0 0], []⟩ 8 (by kernel_rfl) (by kernel_rfl) (by kernel_rfl) (by kernel_rfl)) ?_
  intro W base args ds gs before hval0 hW hcnd _
  have hval : ∀ (j : Nat) t v, Try.f9.params[j]? = some t → args[j]? = some v → Value.okWide Try.prog W .any base t v := hval0
  have hW' := hW
  obtain ⟨p, q, hA0, hV, rfl, hfz, hnd⟩ := hW
  have hA : DataW.TrodAll enc Try.prog W 0 (fun _ => true) true Try.f9.params.toList args.toList ds p := hA0
  rw [Try.params9] at hA hval
  obtain ⟨v0, vs0, d0, ds0, p0, q0, hargs, rfl, rfl, h0, r0⟩ := trodAll_cons hA
  obtain ⟨rfl, rfl, rfl⟩ := trodAll_nil r0
  obtain rfl : args = #[v0] := by cases args; simp_all
  obtain ⟨rfl, rfl⟩ := trodVars_none hV
  have k0 := h0
  have lt0 : ∀ x ∈ p0, x.block < W.heap.size := by obtain ⟨m, hm⟩ := k0; exact DataW.trod_lt m _ _ _ hm
  obtain ⟨A0, c0, l0, rfl, hl0, hm0, rd0, by0⟩ := open_bytes Try.underlying33 Try.underlying5 (by kernel_rfl) (hval 0 33 v0 rfl rfl) h0
  clear hA0 hval0
  refine (walk A0 c0 l0 W hl0 hm0 rd0 by0).mono fun e W' ⟨he, bel⟩ => ?_
  subst he
  exact ⟨_, rfl, _, _, _, [], _, [], hW', trodAll_mk1 (shut_bool Try.underlying4 _), (trodAll_cons_mk (Below.trod laid_out (by kernel_rfl) (of_decide_eq_true (by kernel_rfl)) k0 bel lt0) trodAll_mk0), rfl, bel.frame _, fun h => by cases h⟩
theorem over : Rows.fnMarkBadRow.holds Try.pinned (OpenSpec.ofChange Rows.fnMarkBadSpec) :=
  OpenClaim.holds_of_wide 9 Try.f9 rfl rfl rfl rfl rfl rfl rfl ⟨rfl, rfl, rfl, rfl, rfl⟩ rfl rfl rfl rfl rfl (by kernel_rfl) Try.func9 (by kernel_rfl)
    (of_decide_eq_true (by kernel_rfl)) (by unfold Func.isWrapper; first | (rw [if_pos (by decide +kernel)]; kernel_rfl) | (rw [if_neg (by decide +kernel)]; exact ⟨rfl, rfl⟩))
    (fun os started H enc _ => lifted os started H enc)
theorem proved : Rows.FnMarkBadSaid := over
end LwMb
end Go.Proofs.Ytekpahddcnbnfaa
