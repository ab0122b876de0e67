/-
  What the draws for the paths' laws give. Conditions: the count of draws stays below 10^9.
-/
import Derived.Test.YtplmfcbikcjccaaBase
import Derived.Test.YtplmfcbikcjccaaNum
import Derived.Test.YtplmfcbikcjccaaInts
import Derived.Test.YtplmfcbikcjccaaApp
import Derived.Test.YtplmfcbikcjccaaIntsW
import Derived.Test.YtplmfcbikcjccaaLib
import Derived.Test.YtplmfcbikcjccaaPathM
import Derived.Test.YtplmfcbikcjccaaPath
import Derived.Test.YtplmfcbikcjccaaPathC
import Derived.Test.YtplmfcbikcjccaaDraw
import Derived.Deep.DrawnRows
namespace Go.Proofs.Ytplmfcbikcjccaa
open Go.RowKit
attribute [local go_sem ↓] Go.wp_at_zero Go.wp_at_succ
section
variable {w a b : World} {r : Option Nat}
theorem grownBy_drew (h : w.grownBy a r) : w.grownBy a.drew r := ⟨h.os, h.tape, h.output, h.size, h.block⟩
theorem grownBy_below (h : w.grownBy a r) (k : Below a.heap.size a b) : w.grownBy b r := grownBy_trans h (grownBy_of_below k r)
theorem grownBy_alloc (h : w.grownBy a r) (o : Obj) : w.grownBy (a.alloc o) r := grownBy_below h ((Below.refl _ _).alloc (Nat.le_refl _) o)
theorem grownBy_new {g : Nat} (k : a.grownBy b (some g)) (hg : w.heap.size ≤ g) (h : w.grownBy a r) : w.grownBy b r :=
  ⟨k.os.trans h.os, k.tape.trans h.tape, k.output.trans h.output, Nat.le_trans h.size k.size, fun i hi hne => (k.block i (Nat.lt_of_lt_of_le hi h.size) (fun e => by injection e with e; omega)).trans (h.block i hi hne)⟩
theorem grownBy_set {g : Nat} (h : w.grownBy a r) (hg : w.heap.size ≤ g) (o : Nat) (v : Value) : w.grownBy (a.setCell ⟨g, o, none⟩ v) r := grownBy_new (grownBy_setCell a g o v) hg h
end
/-- an index into a literal of numbers: what is read -/
theorem Loc.at_int {w : World} {b : Nat} {l : List Int} (h : Loc w b (l.map (Value.int .i64))) (r : Int) (h0 : 0 ≤ r) (h1 : r < l.length) : ∃ x : Int, x ∈ l ∧ w.cell? ⟨b, r.toNat, none⟩ = some (.int .i64 x) := by
  have hr : r.toNat < l.length := by omega
  exact ⟨l[r.toNat], List.getElem_mem hr, h.cell (by simp [hr])⟩
theorem Loc.lits {w : World} {b : Nat} (l : List Int) {cs : List Value} (h : Loc w b cs) (hc : cs = l.map (Value.int .i64)) : Loc w b (l.map (Value.int .i64)) := hc ▸ h
/-- Drawn paths: a slice of its own with at most 7; the reader has gone on. -/
def DrawnPaths (w : World) (B R : Nat) (p : Int) (e : Ending) (w' : World) : Prop :=
  ∃ A c g l p', e = .returned (.slice A l.length c) ∧ w.heap.size ≤ g ∧ g ≠ R ∧ Row ePath w' g 33 A c l ∧ l.length ≤ 7 ∧ Rdr w' 57 B R p' ∧ p ≤ p' ∧ p' ≤ p + 100 ∧ w.grownBy w' (some R)
set_option maxHeartbeats 4000000 in
theorem l20Paths_any (B R : Nat) (p n : Int) (w : World) (h : Rdr w 57 B R p) (hp0 : 0 ≤ p) (hp1 : p ≤ 100000000) (hn1 : 1 ≤ n) (hn : n ≤ 1000000) :
    Calls Try.prog 38 #[.pointer (some ⟨R, 0, none⟩), .int .i64 n] w (DrawnPaths w B R p) := by
  have hBR := h.ge
  have hRl := h.lt
  go_enter Try.func38, Try.ntmps38
  go_wp2_with fail
  refine (pick_any B R (p) (7) _ (by ((repeat (first | assumption | with_reducible refine Rdr.drew ?_ | with_reducible refine Rdr.drewN ?_ _ | with_reducible refine Rdr.alloc ?_ _ | with_reducible refine Rdr.other ?_ _ _ ?_ ?_ | omega)); done)) (by omega) (by omega) (by omega)).mono ?_
  rintro e w1 ⟨r1, rfl, a1, b1, hR1, hg1⟩
  have b1' := b1 (by omega)
  clear b1
  replace hR1 := hR1.to (p' := p + 1) (by omega)
  have hz1 := hg1.size
  (try simp at hz1)
  have hlt1 := hR1.lt
  have ne1 : w1.heap.size ≠ R := by omega
  have hrow1 : Hid (Row ePath w1 w.heap.size 33 (some ⟨w.heap.size, 0, none⟩) 0 []) := Lib.hid (Row.far' hg1 (by omega) (by repeat (first | ((with_reducible refine Row.made0 ?_); (focus (first | with_reducible rfl | omega | (simp; omega) | (simp; done)))) | with_reducible refine Row.drew ?_ | with_reducible refine Row.drewN ?_ _ | with_reducible refine Row.alloc ?_ _ | (with_reducible refine Row.below ?_ (by assumption)))))
  have hG : Hid (w.grownBy w1 (some R)) := Lib.hid (grownBy_trans (grownBy_of_below (Below.alloc (Below.refl _ _) (Nat.le_refl _) _) _) hg1)
  go_wp2
  go_loopw [5, 6] (fun out kk wr => ∃ k q : Int, kk = .int .i64 k ∧ 0 ≤ k ∧ k ≤ 6 ∧ p ≤ q ∧ q + 4 * k ≤ p + 25 ∧ Rdr wr 57 B R q ∧ w.grownBy wr (some R) ∧ ∃ A1 c1 g1, ∃ lk : List Pth, out = .slice A1 lk.length c1 ∧ lk.length + k ≤ 6 ∧ (g1 ≠ R ∧ w.heap.size ≤ g1 ∧ g1 < wr.heap.size) ∧ Row ePath wr g1 33 A1 c1 lk) (fun _ kk _ => (intOf kk).toNat)
  case atStart => exact ⟨r1, p + 1, rfl, by omega, by omega, by omega, by omega, hR1, hG.out, _, _, w.heap.size, [], rfl, by simp; omega, ⟨by omega, by omega, by omega⟩, hrow1.out⟩
  case round =>
    obtain ⟨k, q, rfl, k0, k1, q0, q1, hRq, hgw, A1, c1, g1, lk, rfl, hlk, ⟨hg1R, hg1w, hg1l⟩, hrow⟩ := hrel
    have hzr := hgw.size
    have hRr := hRq.lt
    have HROW := Lib.hid hrow
    have HGW := Lib.hid hgw
    clear hrow hgw hrow1 hG
    by_cases hk : 0 < k
    · go_wp2_with fail
      refine (pick_any B R (q) (4) _ (by ((repeat (first | assumption | with_reducible refine Rdr.drew ?_ | with_reducible refine Rdr.drewN ?_ _ | with_reducible refine Rdr.alloc ?_ _ | with_reducible refine Rdr.other ?_ _ _ ?_ ?_ | omega)); done)) (by omega) (by omega) (by omega)).mono ?_
      rintro e w2 ⟨r2, rfl, a2, b2, hR2, hg2⟩
      have b2' := b2 (by omega)
      clear b2
      replace hR2 := hR2.to (p' := q + 1) (by omega)
      have hz2 := hg2.size
      (try simp at hz2)
      have hlt2 := hR2.lt
      have ne2 : w2.heap.size ≠ R := by omega
      have HROW2 := Lib.hid (Row.far' hg2 hg1R HROW.out)
      have HGW2 := Lib.hid (grownBy_trans HGW.out hg2)
      clear hg2
      by_cases hup : 0 < r2
      · have hup' : decide (0 < r2) = true := by simpa using hup
        have LP := Loc.newAt w2 [.bool true, .int .i64 0] 33 (b := w2.heap.size) rfl
        go_wp2_with fail
        refine (pick_any B R (q + 1) (9) _ (by ((repeat (first | assumption | with_reducible refine Rdr.drew ?_ | with_reducible refine Rdr.drewN ?_ _ | with_reducible refine Rdr.alloc ?_ _ | with_reducible refine Rdr.other ?_ _ _ ?_ ?_ | omega)); done)) (by omega) (by omega) (by omega)).mono ?_
        rintro e w3 ⟨r3, rfl, a3, b3, hR3, hg3⟩
        have b3' := b3 (by omega)
        clear b3
        replace hR3 := hR3.to (p' := q + 1 + 1) (by omega)
        have hz3 := hg3.size
        (try simp at hz3)
        have hlt3 := hR3.lt
        have ne3 : w3.heap.size ≠ R := by omega
        replace LP := Loc.carry LP (fun h => by ((repeat (first | with_reducible exact h | with_reducible refine Loc.drew ?_ | with_reducible refine Loc.drewN ?_ _ | with_reducible refine Loc.alloc ?_ _)); done)) hg3 (by omega)
        have HROW3 := Lib.hid (Row.far' hg3 hg1R (Row.alloc HROW2.out _))
        have HGW3 := Lib.hid (grownBy_trans (grownBy_alloc HGW2.out _) hg3)
        clear hg3
        go_wp2_with fail
        refine (pick_any B R (q + 1 + 1) (9) _ (by ((repeat (first | assumption | with_reducible refine Rdr.drew ?_ | with_reducible refine Rdr.drewN ?_ _ | with_reducible refine Rdr.alloc ?_ _ | with_reducible refine Rdr.other ?_ _ _ ?_ ?_ | omega)); done)) (by omega) (by omega) (by omega)).mono ?_
        rintro e w4 ⟨r4, rfl, a4, b4, hR4, hg4⟩
        have b4' := b4 (by omega)
        clear b4
        replace hR4 := hR4.to (p' := q + 1 + 1 + 1) (by omega)
        have hz4 := hg4.size
        (try simp at hz4)
        have hlt4 := hR4.lt
        have ne4 : w4.heap.size ≠ R := by omega
        replace LP := Loc.carry LP (fun h => by ((repeat (first | with_reducible exact h | with_reducible refine Loc.drew ?_ | with_reducible refine Loc.drewN ?_ _ | with_reducible refine Loc.alloc ?_ _)); done)) hg4 (by omega)
        have HROW4 := Lib.hid (Row.far' hg4 hg1R HROW3.out)
        have HGW4 := Lib.hid (grownBy_trans HGW3.out hg4)
        clear hg4
        go_wp2_with fail
        refine (pick_any B R (q + 1 + 1 + 1) (4) _ (by ((repeat (first | assumption | with_reducible refine Rdr.drew ?_ | with_reducible refine Rdr.drewN ?_ _ | with_reducible refine Rdr.alloc ?_ _ | with_reducible refine Rdr.other ?_ _ _ ?_ ?_ | omega)); done)) (by omega) (by omega) (by omega)).mono ?_
        rintro e w5 ⟨r5, rfl, a5, b5, hR5, hg5⟩
        have b5' := b5 (by omega)
        clear b5
        replace hR5 := hR5.to (p' := q + 1 + 1 + 1 + 1) (by omega)
        have hz5 := hg5.size
        (try simp at hz5)
        have hlt5 := hR5.lt
        have ne5 : w5.heap.size ≠ R := by omega
        have LL := Loc.lits [r3, r4, 1000, 998] (w := w5) (b := w4.heap.size) (cs := [.int .i64 r3, .int .i64 r4, .int .i64 1000, .int .i64 998]) (by repeat (first | with_reducible assumption | with_reducible apply Loc.fill3 | with_reducible apply Loc.fill2 | ((with_reducible refine Loc.newAt' ?_ rfl); (focus (first | with_reducible rfl | omega | (simp; omega) | (simp; done)))) | with_reducible refine Loc.drew ?_ | with_reducible refine Loc.drewN ?_ _ | with_reducible refine Loc.alloc ?_ _ | (with_reducible refine Loc.below ?_ (by assumption)) | ((with_reducible refine Loc.other' ?_ ?_ _); (focus (first | omega | (simp; omega) | (simp; done)))) | ((with_reducible refine Loc.far' (by assumption) ?_ ?_); (focus (first | omega | (simp; omega) | (simp; done)))))) rfl
        replace LP := Loc.carry LP (fun h => by ((repeat (first | with_reducible exact h | with_reducible refine Loc.drew ?_ | with_reducible refine Loc.drewN ?_ _ | with_reducible refine Loc.alloc ?_ _)); done)) hg5 (by omega)
        have HROW5 := Lib.hid (Row.far' hg5 hg1R (Row.alloc HROW4.out _))
        have HGW5 := Lib.hid (grownBy_trans (grownBy_alloc HGW4.out _) hg5)
        clear hg5
        obtain ⟨x, -, hx⟩ := LL.at_int r5 a5 (by simp; omega)
        obtain ⟨p0, p1, pf⟩ := LP.two
        have zP := LP.lt
        have ngP : g1 ≠ w2.heap.size := by omega
        have zz : wr.heap.size ≤ w5.heap.size := by omega
        clear HROW HROW2 HROW3 HROW4 HGW HGW2 HGW3 HGW4 hlt2 hlt3 hlt4 ne2 ne3 ne4
        go_wp2_with (at_builtin; refine wpList_append_row (E := ePath) (A := A1) (c := c1) (g := g1) (l := lk) rfl _ _ rfl el_path rfl ?_ _ _ [(⟨true, x⟩ : Pth)] rfl ?_ (by simp only [maxLen, List.length_cons, List.length_nil]; omega) (by simp only [List.length_cons, List.length_nil]; omega) ?_; (focus (exact (by repeat (first | with_reducible exact HROW5.out | with_reducible refine Row.drew ?_ | with_reducible refine Row.drewN ?_ _ | with_reducible refine Row.alloc ?_ _ | (with_reducible refine Row.below ?_ (by assumption)) | ((with_reducible refine Row.other ?_ ?_ _); rotate_left; (focus (first | omega | (simp; omega) | (simp; done)))) | ((with_reducible refine Row.far' (by assumption) ?_ ?_); (focus (first | omega | (simp; omega) | (simp; done)))))))); (focus (exact (by repeat (first | ((with_reducible refine Rd.lit ?_ ?_); (focus (first | with_reducible rfl | omega | (simp; omega) | (simp; done))); (focus (first | rfl | (simp; rfl) | (simp; done)))) | with_reducible refine Rd.drew ?_ | with_reducible refine Rd.drewN ?_ _ | with_reducible refine Rd.alloc ?_ _ | (with_reducible refine Rd.below ?_ (by assumption)))))); intro A3 c3 g3 w6 l3 hl3 hle1 hle2 hrow3 hg3 hgg3)
        have hg3l := hrow3.lt (by simp only [List.length_cons, List.length_nil] at hle2; omega)
        go_roundw
        case rel =>
          simp only [List.length_cons, List.length_nil] at hle1 hle2
          have hz6 := hg3.size
          simp at hz6 hgg3
          exact ⟨k - 1, q + 4, rfl, by omega, by omega, by omega, by omega, (Rdr.grown (p := q + 1 + 1 + 1 + 1) (by ((repeat (first | assumption | with_reducible refine Rdr.drew ?_ | with_reducible refine Rdr.drewN ?_ _ | with_reducible refine Rdr.alloc ?_ _ | with_reducible refine Rdr.other ?_ _ _ ?_ ?_ | omega)); done)) hg3 (by omega) (by omega)).to (by omega), (by repeat (first | with_reducible exact HGW5.out | with_reducible refine grownBy_drew ?_ | with_reducible refine grownBy_drewN ?_ _ | with_reducible refine grownBy_alloc ?_ _ | (with_reducible refine grownBy_below ?_ (by assumption)) | ((with_reducible refine grownBy_set ?_ ?_ _ _); rotate_left; (focus (first | omega | (simp; omega) | (simp; done)))) | ((with_reducible refine grownBy_trans ?_ (by assumption)); done) | ((with_reducible refine grownBy_new (by assumption) ?_ ?_); (focus (first | omega | (simp; omega) | (simp; done)))))), A3, c3, g3, l3, rfl, by omega, ⟨by omega, by omega, by omega⟩, hrow3⟩
        case measure => simp [intOf]; omega
      · have hup' : decide (0 < r2) = false := by simpa using hup
        have ngP : g1 ≠ w2.heap.size := by omega
        clear HROW HGW
        go_wp2_with (at_builtin; refine wpList_append_row (E := ePath) (A := A1) (c := c1) (g := g1) (l := lk) rfl _ _ rfl el_path rfl ?_ _ _ [(⟨false, 0⟩ : Pth)] rfl ?_ (by simp only [maxLen, List.length_cons, List.length_nil]; omega) (by simp only [List.length_cons, List.length_nil]; omega) ?_; (focus (exact (by repeat (first | with_reducible exact HROW2.out | with_reducible refine Row.drew ?_ | with_reducible refine Row.drewN ?_ _ | with_reducible refine Row.alloc ?_ _ | (with_reducible refine Row.below ?_ (by assumption)) | ((with_reducible refine Row.other ?_ ?_ _); rotate_left; (focus (first | omega | (simp; omega) | (simp; done)))) | ((with_reducible refine Row.far' (by assumption) ?_ ?_); (focus (first | omega | (simp; omega) | (simp; done)))))))); (focus (exact (by repeat (first | ((with_reducible refine Rd.lit ?_ ?_); (focus (first | with_reducible rfl | omega | (simp; omega) | (simp; done))); (focus (first | rfl | (simp; rfl) | (simp; done)))) | with_reducible refine Rd.drew ?_ | with_reducible refine Rd.drewN ?_ _ | with_reducible refine Rd.alloc ?_ _ | (with_reducible refine Rd.below ?_ (by assumption)))))); intro A3 c3 g3 w6 l3 hl3 hle1 hle2 hrow3 hg3 hgg3)
        have hg3l := hrow3.lt (by simp only [List.length_cons, List.length_nil] at hle2; omega)
        go_roundw
        case rel =>
          simp only [List.length_cons, List.length_nil] at hle1 hle2
          have hz6 := hg3.size
          simp at hz6 hgg3
          exact ⟨k - 1, q + 1, rfl, by omega, by omega, by omega, by omega, (Rdr.grown (p := q + 1) (by ((repeat (first | assumption | with_reducible refine Rdr.drew ?_ | with_reducible refine Rdr.drewN ?_ _ | with_reducible refine Rdr.alloc ?_ _ | with_reducible refine Rdr.other ?_ _ _ ?_ ?_ | omega)); done)) hg3 (by omega) (by omega)).to (by omega), (by repeat (first | with_reducible exact HGW2.out | with_reducible refine grownBy_drew ?_ | with_reducible refine grownBy_drewN ?_ _ | with_reducible refine grownBy_alloc ?_ _ | (with_reducible refine grownBy_below ?_ (by assumption)) | ((with_reducible refine grownBy_set ?_ ?_ _ _); rotate_left; (focus (first | omega | (simp; omega) | (simp; done)))) | ((with_reducible refine grownBy_trans ?_ (by assumption)); done) | ((with_reducible refine grownBy_new (by assumption) ?_ ?_); (focus (first | omega | (simp; omega) | (simp; done)))))), A3, c3, g3, l3, rfl, by omega, ⟨by omega, by omega, by omega⟩, hrow3⟩
        case measure => simp [intOf]; omega
    · by_cases hl0 : 0 < lk.length
      · have hl0' : (0 : Int) < (lk.length : Int) := by omega
        go_wp2_with fail
        refine (odd_any B R (q) (n) _ (by ((repeat (first | assumption | with_reducible refine Rdr.drew ?_ | with_reducible refine Rdr.drewN ?_ _ | with_reducible refine Rdr.alloc ?_ _ | with_reducible refine Rdr.other ?_ _ _ ?_ ?_ | omega)); done)) (by omega) (by omega) (by omega) (by omega)).mono ?_
        rintro e w2 ⟨r2, rfl, hR2, hg2⟩
        replace hR2 := hR2.to (p' := q + 1) (by omega)
        have hz2 := hg2.size
        (try simp at hz2)
        have hlt2 := hR2.lt
        have ne2 : w2.heap.size ≠ R := by omega
        have HROW2 := Lib.hid (Row.far' hg2 hg1R HROW.out)
        have HGW2 := Lib.hid (grownBy_trans HGW.out hg2)
        clear hg2 HROW HGW
        cases r2
        · go_wp2
          go_ret
          exact ⟨A1, c1, g1, lk, _, rfl, hg1w, hg1R, HROW2.out, by omega, hR2, by omega, by omega, HGW2.out⟩
        · go_wp2_with fail
          refine (pick_any B R (q + 1) (3) _ (by ((repeat (first | assumption | with_reducible refine Rdr.drew ?_ | with_reducible refine Rdr.drewN ?_ _ | with_reducible refine Rdr.alloc ?_ _ | with_reducible refine Rdr.other ?_ _ _ ?_ ?_ | omega)); done)) (by omega) (by omega) (by omega)).mono ?_
          rintro e w3 ⟨r3, rfl, a3, b3, hR3, hg3⟩
          have b3' := b3 (by omega)
          clear b3
          replace hR3 := hR3.to (p' := q + 1 + 1) (by omega)
          have hz3 := hg3.size
          (try simp at hz3)
          have hlt3 := hR3.lt
          have ne3 : w3.heap.size ≠ R := by omega
          have HROW3 := Lib.hid (Row.far' hg3 hg1R HROW2.out)
          have HGW3 := Lib.hid (grownBy_trans HGW2.out hg3)
          clear hg3 HROW2 HGW2
          have hcase : r3 = 0 ∨ r3 = 1 ∨ r3 = 2 := by omega
          rcases hcase with rfl | rfl | rfl
          · go_wp2_with fail
            refine (pick_any B R (q + 1 + 1) (2) _ (by ((repeat (first | assumption | with_reducible refine Rdr.drew ?_ | with_reducible refine Rdr.drewN ?_ _ | with_reducible refine Rdr.alloc ?_ _ | with_reducible refine Rdr.other ?_ _ _ ?_ ?_ | omega)); done)) (by omega) (by omega) (by omega)).mono ?_
            rintro e w4 ⟨r4, rfl, a4, b4, hR4, hg4⟩
            have b4' := b4 (by omega)
            clear b4
            replace hR4 := hR4.to (p' := q + 1 + 1 + 1) (by omega)
            have hz4 := hg4.size
            (try simp at hz4)
            have hlt4 := hR4.lt
            have ne4 : w4.heap.size ≠ R := by omega
            have LL := Loc.lits [-1, 1001] (w := w4) (b := w3.heap.size) (cs := [.int .i64 (-1), .int .i64 1001]) (by repeat (first | with_reducible assumption | with_reducible apply Loc.fill3 | with_reducible apply Loc.fill2 | ((with_reducible refine Loc.newAt' ?_ rfl); (focus (first | with_reducible rfl | omega | (simp; omega) | (simp; done)))) | with_reducible refine Loc.drew ?_ | with_reducible refine Loc.drewN ?_ _ | with_reducible refine Loc.alloc ?_ _ | (with_reducible refine Loc.below ?_ (by assumption)) | ((with_reducible refine Loc.other' ?_ ?_ _); (focus (first | omega | (simp; omega) | (simp; done)))) | ((with_reducible refine Loc.far' (by assumption) ?_ ?_); (focus (first | omega | (simp; omega) | (simp; done)))))) rfl
            have HROW4 := Lib.hid (Row.far' hg4 hg1R (Row.alloc HROW3.out _))
            have HGW4 := Lib.hid (grownBy_trans (grownBy_alloc HGW3.out _) hg4)
            clear hg4
            obtain ⟨x, -, hx⟩ := LL.at_int r4 a4 (by simp; omega)
            obtain ⟨rfl, hgl, hfz, hcc⟩ := HROW4.out.path hl0
            obtain ⟨hc0, hc1⟩ := hcc 0 hl0
            have HSET := Lib.hid (HROW4.out.setLoad (k := 0) hl0 x)
            clear hcc
            simp only [Nat.zero_mul, Nat.zero_add] at hc0 hc1 HSET
            go_wp2
            go_ret
            exact ⟨some ⟨g1, 0, none⟩, c1, g1, lk.set 0 ⟨lk[0].up, x⟩, q + 1 + 1 + 1, by simp, hg1w, hg1R, HSET.out, by simp; omega, (by ((repeat (first | assumption | with_reducible refine Rdr.drew ?_ | with_reducible refine Rdr.drewN ?_ _ | with_reducible refine Rdr.alloc ?_ _ | with_reducible refine Rdr.other ?_ _ _ ?_ ?_ | omega)); done)), by omega, by omega, (by repeat (first | with_reducible exact HGW4.out | with_reducible refine grownBy_drew ?_ | with_reducible refine grownBy_drewN ?_ _ | with_reducible refine grownBy_alloc ?_ _ | (with_reducible refine grownBy_below ?_ (by assumption)) | ((with_reducible refine grownBy_set ?_ ?_ _ _); rotate_left; (focus (first | omega | (simp; omega) | (simp; done)))) | ((with_reducible refine grownBy_trans ?_ (by assumption)); done) | ((with_reducible refine grownBy_new (by assumption) ?_ ?_); (focus (first | omega | (simp; omega) | (simp; done))))))⟩
          · obtain ⟨rfl, hgl, hfz, hcc⟩ := HROW3.out.path hl0
            obtain ⟨hc0, hc1⟩ := hcc 0 hl0
            have HSET := Lib.hid (HROW3.out.setPath (k := 0) hl0 ⟨false, 1⟩)
            clear hcc
            simp only [Nat.zero_mul, Nat.zero_add] at hc0 hc1 HSET
            go_wp2
            go_ret
            exact ⟨some ⟨g1, 0, none⟩, c1, g1, lk.set 0 ⟨false, 1⟩, q + 1 + 1, by simp, hg1w, hg1R, HSET.out, by simp; omega, (by ((repeat (first | assumption | with_reducible refine Rdr.drew ?_ | with_reducible refine Rdr.drewN ?_ _ | with_reducible refine Rdr.alloc ?_ _ | with_reducible refine Rdr.other ?_ _ _ ?_ ?_ | omega)); done)), by omega, by omega, (by repeat (first | with_reducible exact HGW3.out | with_reducible refine grownBy_drew ?_ | with_reducible refine grownBy_drewN ?_ _ | with_reducible refine grownBy_alloc ?_ _ | (with_reducible refine grownBy_below ?_ (by assumption)) | ((with_reducible refine grownBy_set ?_ ?_ _ _); rotate_left; (focus (first | omega | (simp; omega) | (simp; done)))) | ((with_reducible refine grownBy_trans ?_ (by assumption)); done) | ((with_reducible refine grownBy_new (by assumption) ?_ ?_); (focus (first | omega | (simp; omega) | (simp; done))))))⟩
          · have hmk := run_make_el el_path 7 (by omega) (by omega)
            have hmrow := made_row (E := ePath) (z := .agg #[.bool false, .int .i64 0]) (e := 33) w3 ⟨false, 0⟩ rfl 7 (by omega)
            simp only [show (Value.agg #[.bool false, .int .i64 0]).cells = #[.bool false, .int .i64 0] from rfl, show ePath.size = 2 from rfl] at hmk hmrow
            have HM := Lib.hid hmrow
            clear hmrow
            simp only [show ((7 : Nat) : Int) = 7 from rfl] at hmk
            go_wp2
            go_ret
            exact ⟨_, _, _, List.replicate 7 ⟨false, 0⟩, q + 1 + 1, by simp, by omega, by omega, HM.out, by simp, (by ((repeat (first | assumption | with_reducible refine Rdr.drew ?_ | with_reducible refine Rdr.drewN ?_ _ | with_reducible refine Rdr.alloc ?_ _ | with_reducible refine Rdr.other ?_ _ _ ?_ ?_ | omega)); done)), by omega, by omega, (by repeat (first | with_reducible exact HGW3.out | with_reducible refine grownBy_drew ?_ | with_reducible refine grownBy_drewN ?_ _ | with_reducible refine grownBy_alloc ?_ _ | (with_reducible refine grownBy_below ?_ (by assumption)) | ((with_reducible refine grownBy_set ?_ ?_ _ _); rotate_left; (focus (first | omega | (simp; omega) | (simp; done)))) | ((with_reducible refine grownBy_trans ?_ (by assumption)); done) | ((with_reducible refine grownBy_new (by assumption) ?_ ?_); (focus (first | omega | (simp; omega) | (simp; done))))))⟩
      · have hl0' : ¬ (0 : Int) < (lk.length : Int) := by omega
        go_wp2
        go_ret
        exact ⟨A1, c1, g1, lk, _, rfl, hg1w, hg1R, HROW.out, by omega, hRq, by omega, by omega, HGW.out⟩
def FreshPaths (w : World) (e : Ending) (w' : World) : Prop :=
  ∃ A c g l, e = .returned (.slice A l.length c) ∧ w.heap.size ≤ g ∧ Row ePath w' g 33 A c l ∧ l.length ≤ 7 ∧ Below w.heap.size w w'
def FreshPathsN (w : World) (e : Ending) (w' : World) : Prop :=
  ∃ A c g l n, e = .returned (.tuple #[.slice A l.length c, .int .i64 n]) ∧ w.heap.size ≤ g ∧ Row ePath w' g 33 A c l ∧ l.length ≤ 7 ∧ -1 ≤ n ∧ n ≤ 1000 ∧ Below w.heap.size w w'
set_option maxHeartbeats 1000000 in
theorem drawPv_any (A : Option Addr) (c : Nat) (l : List Int) (w : World) (hl : l.length ≤ c) (hm : c ≤ maxLen) (hr : Rd eByte w A l) (hb : ∀ x ∈ l, 0 ≤ x ∧ x ≤ 255) :
    Calls Try.prog 19 #[.slice A l.length c] w (FreshPaths w) := by
  have HB := Lib.hid hb
  clear hb
  have hA : Hid (∀ b off, 0 < l.length → A = some ⟨b, off, none⟩ → b < w.heap.size) := Lib.hid fun _ _ h0 hA => hr.lt h0 hA
  go_enter Try.func19, Try.ntmps19
  go_wp2_with fail
  refine (l20Open_any A c l _ hl hm hr HB.out w.heap.size hA.out (Nat.le_refl _)).mono ?_
  rintro e w1 ⟨R, rfl, hR1, hge, hb1⟩
  have hz1 := hb1.size
  go_wp2_with fail
  refine (l20Paths_any w.heap.size R 0 2 _ hR1 (by omega) (by omega) (by omega) (by omega)).mono ?_
  rintro e w2 ⟨A2, c2, g2, l2, p2, rfl, hg2, -, row2, hl2, hR2, -, -, hgw⟩
  go_wp2
  go_ret
  exact ⟨A2, c2, g2, l2, rfl, by omega, row2, hl2, below_of_grown hb1 hgw hz1 hge⟩
set_option maxHeartbeats 1000000 in
theorem drawPc_any (A : Option Addr) (c : Nat) (l : List Int) (w : World) (hl : l.length ≤ c) (hm : c ≤ maxLen) (hr : Rd eByte w A l) (hb : ∀ x ∈ l, 0 ≤ x ∧ x ≤ 255) :
    Calls Try.prog 21 #[.slice A l.length c] w (FreshPaths w) := by
  have HB := Lib.hid hb
  clear hb
  have hA : Hid (∀ b off, 0 < l.length → A = some ⟨b, off, none⟩ → b < w.heap.size) := Lib.hid fun _ _ h0 hA => hr.lt h0 hA
  go_enter Try.func21, Try.ntmps21
  go_wp2_with fail
  refine (l20Open_any A c l _ hl hm hr HB.out w.heap.size hA.out (Nat.le_refl _)).mono ?_
  rintro e w1 ⟨R, rfl, hR1, hge, hb1⟩
  have hz1 := hb1.size
  go_wp2_with fail
  refine (l20Paths_any w.heap.size R 0 9 _ hR1 (by omega) (by omega) (by omega) (by omega)).mono ?_
  rintro e w2 ⟨A2, c2, g2, l2, p2, rfl, hg2, -, row2, hl2, hR2, -, -, hgw⟩
  go_wp2
  go_ret
  exact ⟨A2, c2, g2, l2, rfl, by omega, row2, hl2, below_of_grown hb1 hgw hz1 hge⟩
end Go.Proofs.Ytplmfcbikcjccaa
