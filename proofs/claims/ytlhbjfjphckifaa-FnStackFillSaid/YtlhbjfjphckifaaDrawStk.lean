/-
  What the draws of stacks give. Conditions: the count of draws stays below 10^9.
-/
import Derived.Test.YtlhbjfjphckifaaBase
import Derived.Test.YtlhbjfjphckifaaNum
import Derived.Test.YtlhbjfjphckifaaInts
import Derived.Test.YtlhbjfjphckifaaApp
import Derived.Test.YtlhbjfjphckifaaIntsW
import Derived.Test.YtlhbjfjphckifaaLib
import Derived.Test.YtlhbjfjphckifaaSpares
import Derived.Test.YtlhbjfjphckifaaOwn
import Derived.Test.YtlhbjfjphckifaaPart
import Derived.Test.YtlhbjfjphckifaaLine
import Derived.Test.YtlhbjfjphckifaaStack
import Derived.Test.YtlhbjfjphckifaaStackM
import Derived.Test.YtlhbjfjphckifaaStackC
import Derived.Test.YtlhbjfjphckifaaStackF
import Derived.Test.YtlhbjfjphckifaaStackS
import Derived.Test.YtlhbjfjphckifaaStackU
import Derived.Test.YtlhbjfjphckifaaDraw
import Derived.Test.YtlhbjfjphckifaaDrawK
import Derived.Test.YtlhbjfjphckifaaDrawD
import Derived.Test.YtlhbjfjphckifaaDrawSt
import Derived.IntWalk
namespace Go.Proofs.Ytlhbjfjphckifaa
open Go.RowKit
theorem stackOwn_rows {B C g1 g2 g3 c1 c2 c3 : Nat} {w : World} {A1 A2 A3 : Option Addr} {dl : List Int} {pl : List Pt} {ln : List Ln} {m : Int} (r1 : Row eInt w g1 3 A1 c1 dl) (r2 : Row encPartS w g2 tyPartS A2 c2 pl) (r3 : Row encLineS w g3 tyLineS A3 c3 ln) (h12 : g1 ≠ g2) (h13 : g1 ≠ g3) (h23 : g2 ≠ g3) (hB : B ≤ g1 ∧ B ≤ g2 ∧ B ≤ g3) (hC : w.heap.size ≤ C) :
    StackOwn B w C [.slice A1 dl.length c1, .slice A2 pl.length c2, .slice A3 ln.length c3, .int .i64 m] ⟨dl, pl, ln, m⟩ := by
  refine ⟨_, _, _, rfl, SOwn.mono (SOwn.of_fresh (D := B) r1 hB.1) (Nat.le_refl _) hC, SOwn.mono (SOwn.of_fresh (D := B) r2 hB.2.1) (Nat.le_refl _) hC, SOwn.mono (SOwn.of_fresh (D := B) r3 hB.2.2) (Nat.le_refl _) hC, ?_, ?_, ?_⟩
  · intro a n c a' n' c' h1 h2
    cases h1
    cases h2
    rw [r1.addr, r2.addr]
    exact h12
  · intro a n c a' n' c' h1 h2
    cases h1
    cases h2
    rw [r1.addr, r3.addr]
    exact h13
  · intro a n c a' n' c' h1 h2
    cases h1
    cases h2
    rw [r2.addr, r3.addr]
    exact h23
theorem Row.renew {α : Type} {E : Enc α} {w w' : World} {g : Nat} {e : TypeId} {A : Option Addr} {c : Nat} {l : List α} (h : Row E w g e A c l) (k : Row E w' g e A c l) (N : Nat) : ∃ g', Row E w' g' e A c l ∧ (g' = N ∨ (g' = g ∧ g < w.heap.size)) := by
  rcases h with h | ⟨cur, rfl, hh, r⟩
  · exact ⟨N, .inl h, .inl rfl⟩
  · exact ⟨g, k, .inr ⟨rfl, (Array.getElem?_eq_some_iff.1 hh).1⟩⟩
/-- A drawn stack. -/
def DrawnStack (w : World) (B R : Nat) (p : Int) (e : Ending) (w' : World) : Prop :=
  ∃ y0 y1 y2 y3 t p', e = .returned (.agg #[y0, y1, y2, y3]) ∧ StackOwn w.heap.size w' w'.heap.size [y0, y1, y2, y3] t ∧ sizeStack t ≤ 60 ∧ (∀ y ∈ t.prt, y.cnt ≤ 5) ∧ Rdr w' 115 B R p' ∧ p ≤ p' ∧ p' ≤ p + 400 ∧ w.grownBy w' (some R)
set_option maxHeartbeats 8000000 in
theorem l20Stack_any (B R : Nat) (p n : Int) (w : World) (h : Rdr w 115 B R p) (hp0 : 0 ≤ p) (hp1 : p ≤ 100000000) (hn1 : 1 ≤ n) (hn : n ≤ 1000000) :
    Calls Try.prog 73 #[.pointer (some ⟨R, 0, none⟩), .int .i64 n] w (DrawnStack w B R p) := by
  have hBR := h.ge
  have hRl := h.lt
  have L4 := Loc.new w [.slice none 0 0, .slice none 0 0, .slice none 0 0, .int .i64 0] 35
  go_enter Try.func73, Try.ntmps73
  go_wp2_with fail
  refine (l20Parts_any B R p _ (by ((repeat (first | with_reducible assumption | with_reducible refine Rdr.drew ?_ | with_reducible refine Rdr.drewN ?_ _ | with_reducible refine Rdr.alloc ?_ _ | with_reducible refine Rdr.other ?_ _ _ ?_ ?_ | omega)); done)) (by omega) (by omega)).mono ?_
  rintro e w1 ⟨A1, c1, g1, pl, sz, p1, rfl, hg1w, hg1R, rowp, hpl4, hcnt, sz0, sz1, hR1, hp1a, hp1b, hg1⟩
  have hz1 := hg1.size
  (try simp at hz1)
  (try simp at hg1w)
  replace L4 := Loc.carry L4 (fun h => by ((repeat (first | with_reducible exact h | with_reducible refine Loc.drew ?_ | with_reducible refine Loc.drewN ?_ _ | with_reducible refine Loc.alloc ?_ _)); done)) hg1 (by omega)
  have HG1 := Lib.hid (grownBy_trans (grownBy_alloc (grownBy_refl w (some R)) _) hg1)
  have HCNT := Lib.hid hcnt
  have hlt1 := hR1.lt
  have LX := Loc.newAt w1 [.slice none 0 0, .slice A1 pl.length c1, .slice none 0 0, .int .i64 0] 35 (b := w1.heap.size) rfl
  obtain ⟨g1', rowp', hpk⟩ := rowp.pick (R + w1.heap.size + 2)
  have hgp1 : g1' ≠ R := by omega
  have hgp2 : w.heap.size < g1' := by omega
  have hgp3 : g1' ≠ w1.heap.size := by omega
  have HRP := Lib.hid (Row.alloc rowp' (.cells #[.slice none 0 0, .slice A1 pl.length c1, .slice none 0 0, .int .i64 0] 35))
  replace L4 := Loc.alloc L4 (.cells #[.slice none 0 0, .slice A1 pl.length c1, .slice none 0 0, .int .i64 0] 35)
  have HG1' := Lib.hid (grownBy_alloc HG1.out (.cells #[.slice none 0 0, .slice A1 pl.length c1, .slice none 0 0, .int .i64 0] 35))
  have hR1' : Rdr (w1.alloc (.cells #[.slice none 0 0, .slice A1 pl.length c1, .slice none 0 0, .int .i64 0] 35)) 115 B R p1 := (by ((repeat (first | with_reducible assumption | with_reducible refine Rdr.drew ?_ | with_reducible refine Rdr.drewN ?_ _ | with_reducible refine Rdr.alloc ?_ _ | with_reducible refine Rdr.other ?_ _ _ ?_ ?_ | omega)); done))
  have hxR : w1.heap.size ≠ R := by omega
  have hwX : w.heap.size < w1.heap.size := by omega
  clear hg1 rowp rowp' hpk hcnt HG1 hg1w hg1R
  go_wp2
  go_loopw [8] (fun kk wr => ∃ k q : Int, kk = .int .i64 k ∧ 0 ≤ k ∧ k ≤ sz ∧ p ≤ q ∧ q ≤ p + 20 + k ∧ Rdr wr 115 B R q ∧ w.grownBy wr (some R) ∧ Loc wr w.heap.size [.slice none 0 0, .slice none 0 0, .slice none 0 0, .int .i64 0] ∧ ∃ gp, (gp ≠ R ∧ w.heap.size < gp ∧ gp ≠ w1.heap.size) ∧ Row encPartS wr gp tyPartS A1 c1 pl ∧ ∃ A2 c2 g2, ∃ lk : List Int, Loc wr w1.heap.size [.slice A2 lk.length c2, .slice A1 pl.length c1, .slice none 0 0, .int .i64 0] ∧ (lk.length : Int) ≤ k ∧ (g2 ≠ R ∧ w.heap.size < g2 ∧ g2 ≠ w1.heap.size ∧ g2 ≠ gp) ∧ Row eInt wr g2 3 A2 c2 lk) (fun kk _ => (sz - intOf kk).toNat)
  case atStart => exact ⟨0, p1, rfl, by omega, by omega, by omega, by omega, hR1', HG1'.out, L4, g1', ⟨hgp1, hgp2, hgp3⟩, HRP.out, none, 0, R + w1.heap.size + g1' + 1, [], LX, by simp, ⟨by omega, by omega, by omega, by omega⟩, Row.nil _ _ _⟩
  case round =>
    clear L4 LX HG1' hR1' HRP hgp1 hgp2 hgp3
    obtain ⟨k, q, rfl, k0, k1, q0, q1, hRq, hgw, L4, gq, ⟨hgp1, hgp2, hgp3⟩, hrp, A2, c2, g0, lk, LX, hlk, ⟨hg0R, hg0w, hg0X, hg0p⟩, hrow0⟩ := hrel
    obtain ⟨wa, hwa⟩ : ∃ x, x = wr := ⟨_, rfl⟩
    subst hwa
    have hzr := hgw.size
    have hRr := hRq.lt
    have zX := LX.lt
    have z4 := L4.lt
    obtain ⟨g2, hrow, hpk⟩ := hrow0.pick (wa.heap.size + g0 + R + gq + 10)
    have hg2R : g2 ≠ R := by omega
    have hg2w : w.heap.size < g2 := by omega
    have hg2X : g2 ≠ w1.heap.size := by omega
    have hg2p : g2 ≠ gq := by omega
    clear hpk hrow0 hg0R hg0w hg0X hg0p
    obtain ⟨x0, x1, x2, x3, xf⟩ := LX.four
    have HROW := Lib.hid hrow
    have HRP := Lib.hid hrp
    have HGW := Lib.hid hgw
    clear hrow hgw hrp
    by_cases hk : k < sz
    · go_wp2
      go_region_law (first
        | (go_simp; go_at_call 88; go_must ((with_reducible refine (pick_any B R q 256 _ (by ((repeat (first | with_reducible assumption | with_reducible refine Rdr.drew ?_ | with_reducible refine Rdr.drewN ?_ _ | with_reducible refine Rdr.alloc ?_ _ | with_reducible refine Rdr.other ?_ _ _ ?_ ?_ | omega)); done)) (by omega) (by omega) (by omega)).mono ?_); rintro e w2 ⟨r2, rfl, a2, b2, hR2, hg2⟩; replace hR2 := hR2.to (p' := q + 1) (by omega); have hz2 := hg2.size; (try simp at hz2); have LX2 := Loc.carry LX (fun h => by ((repeat (first | with_reducible exact h | with_reducible refine Loc.drew ?_ | with_reducible refine Loc.drewN ?_ _ | with_reducible refine Loc.alloc ?_ _)); done)) hg2 (by omega); have L42 := Loc.carry L4 (fun h => by ((repeat (first | with_reducible exact h | with_reducible refine Loc.drew ?_ | with_reducible refine Loc.drewN ?_ _ | with_reducible refine Loc.alloc ?_ _)); done)) hg2 (by omega); obtain ⟨y0, y1, y2, y3, yf⟩ := LX2.four; have zX2 := LX2.lt; have HROW2 := Lib.hid (Row.far' hg2 hg2R (Row.drew HROW.out)); have HRP2 := Lib.hid (Row.far' hg2 hgp1 (Row.drew HRP.out)); have HGW2 := Lib.hid (grownBy_trans (grownBy_drew HGW.out) hg2); have hlt2 := hR2.lt; clear hg2 b2))
        | (refine step_append_row (by rfl) (.tmp 22) (.tmp 25) (by rfl) el_int (by simp [go_sem]; done) (Row.alloc HROW2.out _) (some ⟨w2.heap.size, 0, none⟩) 1 [(r2 : Int)] (by simp [go_sem]; done) (by repeat (first | ((with_reducible refine Rd.lit ?_ ?_); (focus (first | with_reducible rfl | omega | (simp; omega) | (simp; done))); (focus (first | rfl | (simp; rfl) | (simp; done)))) | with_reducible refine Rd.drew ?_ | with_reducible refine Rd.drewN ?_ _ | with_reducible refine Rd.alloc ?_ _ | (with_reducible refine Rd.below ?_ (by assumption)))) (by simp [maxLen]; omega) (by simp; omega) ?_; intro A5 c5 g5 w5 l5 hl5 hle1 hle2 hrow5 hg5 hgg5; have LX5 := Loc.carry LX2 (fun h => by ((repeat (first | with_reducible exact h | with_reducible refine Loc.drew ?_ | with_reducible refine Loc.drewN ?_ _ | with_reducible refine Loc.alloc ?_ _)); done)) hg5 (by first | omega | (simp; omega) | (simp; done)); have L45 := Loc.carry L42 (fun h => by ((repeat (first | with_reducible exact h | with_reducible refine Loc.drew ?_ | with_reducible refine Loc.drewN ?_ _ | with_reducible refine Loc.alloc ?_ _)); done)) hg5 (by first | omega | (simp; omega) | (simp; done)); obtain ⟨z0, z1, z2, z3, zf⟩ := LX5.four; have zX5 := LX5.lt; have z45 := L45.lt; have hz5 := hg5.size; (try simp at hz5); (try simp at hgg5); (try simp at hle1); (try simp at hle2)))
      all_goals
        have hR5 : Rdr (w5.setCell ⟨w1.heap.size, 0, none⟩ (.slice A5 l5.length c5)) 115 B R (q + 1) := Rdr.other (Rdr.grown (p := q + 1) (by ((repeat (first | with_reducible assumption | with_reducible refine Rdr.drew ?_ | with_reducible refine Rdr.drewN ?_ _ | with_reducible refine Rdr.alloc ?_ _ | with_reducible refine Rdr.other ?_ _ _ ?_ ?_ | omega)); done)) hg5 (by omega) (by omega)) _ _ (by omega) hxR
        have HGW5 : Hid (w.grownBy (w5.setCell ⟨w1.heap.size, 0, none⟩ (.slice A5 l5.length c5)) (some R)) := Lib.hid (grownBy_set (grownBy_new hg5 (by omega) (grownBy_alloc HGW2.out _)) (by omega) _ _)
        have HRP5 : Hid (Row encPartS (w5.setCell ⟨w1.heap.size, 0, none⟩ (.slice A5 l5.length c5)) gq tyPartS A1 c1 pl) := Lib.hid (Row.other (Row.grown (Row.alloc HRP2.out _) hg5 (Ne.symm hg2p)) (by simp only; omega) _)
        have HROW5 : Hid (Row eInt (w5.setCell ⟨w1.heap.size, 0, none⟩ (.slice A5 l5.length c5)) g5 3 A5 c5 l5) := Lib.hid (Row.other hrow5 (by simp only; omega) _)
        have KX : Loc (w5.setCell ⟨w1.heap.size, 0, none⟩ (.slice A5 l5.length c5)) w1.heap.size [.slice A5 l5.length c5, .slice A1 pl.length c1, .slice none 0 0, .int .i64 0] := by simpa using LX5.set 0 (.slice A5 l5.length c5)
        have K4 := Loc.other' (p := ⟨w1.heap.size, 0, none⟩) (by simp only; omega) L45 (.slice A5 l5.length c5)
        obtain ⟨gp, HRP6, hpp⟩ := Row.renew HRP.out HRP5.out (g5 + w5.heap.size + R + w1.heap.size + 1)
        clear HRP5
        go_wp2
        go_roundw
        case rel => exact ⟨k + 1, q + 1, by go_num, by omega, by omega, by omega, by omega, hR5, HGW5.out, K4, gp, ⟨by omega, by omega, by omega⟩, HRP6, A5, c5, g5, l5, KX, by omega, ⟨by omega, by omega, by omega, by omega⟩, HROW5.out⟩
        case measure => simp [intOf]; omega
    · go_wp2_with fail
      refine (l20Cache_any B R q sz _ (by ((repeat (first | with_reducible assumption | with_reducible refine Rdr.drew ?_ | with_reducible refine Rdr.drewN ?_ _ | with_reducible refine Rdr.alloc ?_ _ | with_reducible refine Rdr.other ?_ _ _ ?_ ?_ | omega)); done)) (by omega) (by omega) (by omega) (by omega)).mono ?_
      rintro e w2 ⟨A3, c3, g3, ln, m, p3, rfl, hg3w, hg3R, rowl, hln5, m0, m1, hR2, q2, q3, hg2⟩
      have hz2 := hg2.size
      have K4 := Loc.carry L4 (fun h => by ((repeat (first | with_reducible exact h | with_reducible refine Loc.drew ?_ | with_reducible refine Loc.drewN ?_ _ | with_reducible refine Loc.alloc ?_ _)); done)) hg2 (by omega)
      have KX := Loc.carry LX (fun h => by ((repeat (first | with_reducible exact h | with_reducible refine Loc.drew ?_ | with_reducible refine Loc.drewN ?_ _ | with_reducible refine Loc.alloc ?_ _)); done)) hg2 (by omega)
      have zKX := KX.lt
      have rd2 := Row.far' hg2 hg2R HROW.out
      have rp2 := Row.far' hg2 hgp1 HRP.out
      obtain ⟨d1, rd3, hd⟩ := Row.renew HROW.out rd2 (w2.heap.size + R + 11)
      obtain ⟨d2, rp3, he⟩ := Row.renew HRP.out rp2 (w2.heap.size + R + 12)
      obtain ⟨d3, rl3, hf⟩ := rowl.pick (w2.heap.size + R + 13)
      have HGW2 := Lib.hid (grownBy_trans HGW.out hg2)
      have d12 : d1 ≠ d2 := by omega
      have d13 : d1 ≠ d3 := by omega
      have d23 : d2 ≠ d3 := by omega
      have dX : d1 ≠ w1.heap.size ∧ d2 ≠ w1.heap.size ∧ d3 ≠ w1.heap.size := ⟨by omega, by omega, by omega⟩
      have dR : d1 ≠ R ∧ d2 ≠ R ∧ d3 ≠ R := ⟨by omega, by omega, by omega⟩
      have dW : w.heap.size < d1 ∧ w.heap.size < d2 ∧ w.heap.size < d3 := ⟨by omega, by omega, by omega⟩
      obtain ⟨dX1, dX2, dX3⟩ := dX
      obtain ⟨dR1, dR2, dR3⟩ := dR
      obtain ⟨dW1, dW2, dW3⟩ := dW
      obtain ⟨wb, hwb⟩ : ∃ wb, wb = (w2.setCell ⟨w1.heap.size, 2, none⟩ (.slice A3 ln.length c3)).setCell ⟨w1.heap.size, 3, none⟩ (.int .i64 m) := ⟨_, rfl⟩
      have LXb : Loc wb w1.heap.size [.slice A2 lk.length c2, .slice A1 pl.length c1, .slice A3 ln.length c3, .int .i64 m] := by rw [hwb]; simpa using (KX.set 2 (.slice A3 ln.length c3)).set 3 (.int .i64 m)
      have L4b : Loc wb w.heap.size [.slice none 0 0, .slice none 0 0, .slice none 0 0, .int .i64 0] := by rw [hwb]; exact (by repeat (first | with_reducible exact K4 | with_reducible refine Loc.drew ?_ | with_reducible refine Loc.drewN ?_ _ | with_reducible refine Loc.alloc ?_ _ | (with_reducible refine Loc.below ?_ (by assumption)) | ((with_reducible refine Loc.other' ?_ ?_ _); (focus (first | omega | (simp; omega) | (simp; done)))) | ((with_reducible refine Loc.far' (by assumption) ?_ ?_); (focus (first | omega | (simp; omega) | (simp; done))))))
      have HD : Hid (Row eInt wb d1 3 A2 c2 lk) := Lib.hid (by rw [hwb]; exact Row.other (Row.other rd3 (by simp only; omega) _) (by simp only; omega) _)
      have HP : Hid (Row encPartS wb d2 tyPartS A1 c1 pl) := Lib.hid (by rw [hwb]; exact Row.other (Row.other rp3 (by simp only; omega) _) (by simp only; omega) _)
      have HL : Hid (Row encLineS wb d3 tyLineS A3 c3 ln) := Lib.hid (by rw [hwb]; exact Row.other (Row.other rl3 (by simp only; omega) _) (by simp only; omega) _)
      have hRb : Rdr wb 115 B R p3 := by rw [hwb]; exact Rdr.other (Rdr.other hR2 _ _ (by omega) hxR) _ _ (by omega) hxR
      have HG : Hid (w.grownBy wb (some R)) := Lib.hid (by rw [hwb]; exact grownBy_set (grownBy_set HGW2.out (by omega) _ _) (by omega) _ _)
      have hzb : wb.heap.size = w2.heap.size := by rw [hwb]; simp
      clear hg2 rowl rd2 rp2 rd3 rp3 rl3 K4 LX L4 x0 x1 x2 x3 xf HROW HRP HGW HGW2 hd he hf hg3w hg3R
      have HWB := Lib.hid hwb
      obtain ⟨x0, x1, x2, x3, xf⟩ := KX.four
      clear hwb
      go_wp2_with fail
      rw [← HWB.out]
      clear x0 x1 x2 x3 xf KX
      refine (odd_any B R p3 n _ hRb (by omega) (by omega) (by omega) (by omega)).mono ?_
      rintro e w4 ⟨r4, rfl, hR4, hg4⟩
      replace hR4 := hR4.to (p' := p3 + 1) (by omega)
      have hz4 := hg4.size
      have hlt4 := hR4.lt
      have LX4 := Loc.carry LXb (fun h => by ((repeat (first | with_reducible exact h | with_reducible refine Loc.drew ?_ | with_reducible refine Loc.drewN ?_ _ | with_reducible refine Loc.alloc ?_ _)); done)) hg4 (by omega)
      have L44 := Loc.carry L4b (fun h => by ((repeat (first | with_reducible exact h | with_reducible refine Loc.drew ?_ | with_reducible refine Loc.drewN ?_ _ | with_reducible refine Loc.alloc ?_ _)); done)) hg4 (by omega)
      have HD4 := Lib.hid (Row.far' hg4 dR1 HD.out)
      have HP4 := Lib.hid (Row.far' hg4 dR2 HP.out)
      have HL4 := Lib.hid (Row.far' hg4 dR3 HL.out)
      have HG4 := Lib.hid (grownBy_trans HG.out hg4)
      have zX4 := LX4.lt
      have z44 := L44.lt
      clear hg4 HD HP HL HG LXb L4b hRb HWB
      cases r4
      · obtain ⟨x0, x1, x2, x3, xf⟩ := LX4.four
        obtain ⟨v0, v1, v2, v3, vf⟩ := L44.four
        go_wp2
        refine bodyPost_ret (v := .agg #[.slice A2 lk.length c2, .slice A1 pl.length c1, .slice A3 ln.length c3, .int .i64 m]) (by simp [results, Try.results73, go_sem, *]; done) rfl ?_
        exact ⟨_, _, _, _, ⟨lk, pl, ln, m⟩, p3 + 1, rfl, stackOwn_rows (g1 := d1) (g2 := d2) (g3 := d3) (by repeat (first | with_reducible exact HD4.out | with_reducible refine Row.drew ?_ | with_reducible refine Row.drewN ?_ _ | with_reducible refine Row.alloc ?_ _ | (with_reducible refine Row.below ?_ (by assumption)) | ((with_reducible refine Row.other ?_ ?_ _); rotate_left; (focus (first | omega | (simp; omega) | (simp; done)))) | ((with_reducible refine Row.far' (by assumption) ?_ ?_); (focus (first | omega | (simp; omega) | (simp; done)))))) (by repeat (first | with_reducible exact HP4.out | with_reducible refine Row.drew ?_ | with_reducible refine Row.drewN ?_ _ | with_reducible refine Row.alloc ?_ _ | (with_reducible refine Row.below ?_ (by assumption)) | ((with_reducible refine Row.other ?_ ?_ _); rotate_left; (focus (first | omega | (simp; omega) | (simp; done)))) | ((with_reducible refine Row.far' (by assumption) ?_ ?_); (focus (first | omega | (simp; omega) | (simp; done)))))) (by repeat (first | with_reducible exact HL4.out | with_reducible refine Row.drew ?_ | with_reducible refine Row.drewN ?_ _ | with_reducible refine Row.alloc ?_ _ | (with_reducible refine Row.below ?_ (by assumption)) | ((with_reducible refine Row.other ?_ ?_ _); rotate_left; (focus (first | omega | (simp; omega) | (simp; done)))) | ((with_reducible refine Row.far' (by assumption) ?_ ?_); (focus (first | omega | (simp; omega) | (simp; done)))))) (by omega) (by omega) (by omega) ⟨by omega, by omega, by omega⟩ (Nat.le_refl _), by unfold sizeStack; simp only; omega, HCNT.out, (by ((repeat (first | with_reducible assumption | with_reducible refine Rdr.drew ?_ | with_reducible refine Rdr.drewN ?_ _ | with_reducible refine Rdr.alloc ?_ _ | with_reducible refine Rdr.other ?_ _ _ ?_ ?_ | omega)); done)), by omega, by omega, (by repeat (first | with_reducible exact HG4.out | with_reducible refine grownBy_drew ?_ | with_reducible refine grownBy_drewN ?_ _ | with_reducible refine grownBy_alloc ?_ _ | (with_reducible refine grownBy_below ?_ (by assumption)) | ((with_reducible refine grownBy_set ?_ ?_ _ _); rotate_left; (focus (first | omega | (simp; omega) | (simp; done)))) | ((with_reducible refine grownBy_trans ?_ (by assumption)); done) | ((with_reducible refine grownBy_new (by assumption) ?_ ?_); (focus (first | omega | (simp; omega) | (simp; done))))))⟩
      · go_wp2_with fail
        refine (pick_any B R (p3 + 1) (3) _ (by ((repeat (first | with_reducible assumption | with_reducible refine Rdr.drew ?_ | with_reducible refine Rdr.drewN ?_ _ | with_reducible refine Rdr.alloc ?_ _ | with_reducible refine Rdr.other ?_ _ _ ?_ ?_ | omega)); done)) (by omega) (by omega) (by omega)).mono ?_
        rintro e w5 ⟨r5, rfl, a5, b5, hR5, hg5⟩
        have b5' := b5 (by omega)
        clear b5
        replace hR5 := hR5.to (p' := p3 + 1 + 1) (by omega)
        have hz5 := hg5.size
        (try simp at hz5)
        have hlt5 := hR5.lt
        have ne5 : w5.heap.size ≠ R := by omega
        replace LX4 := Loc.carry LX4 (fun h => by ((repeat (first | with_reducible exact h | with_reducible refine Loc.drew ?_ | with_reducible refine Loc.drewN ?_ _ | with_reducible refine Loc.alloc ?_ _)); done)) hg5 (by omega)
        replace L44 := Loc.carry L44 (fun h => by ((repeat (first | with_reducible exact h | with_reducible refine Loc.drew ?_ | with_reducible refine Loc.drewN ?_ _ | with_reducible refine Loc.alloc ?_ _)); done)) hg5 (by omega)
        have HD5 := Lib.hid (Row.far' hg5 dR1 HD4.out)
        have HP5 := Lib.hid (Row.far' hg5 dR2 HP4.out)
        have HL5 := Lib.hid (Row.far' hg5 dR3 HL4.out)
        have HG5 := Lib.hid (grownBy_trans HG4.out hg5)
        have zX5 := LX4.lt
        have z45 := L44.lt
        clear hg5 HD4 HP4 HL4 HG4 zX4 z44
        obtain ⟨x0, x1, x2, x3, xf⟩ := LX4.four
        obtain ⟨v0, v1, v2, v3, vf⟩ := L44.four
        have hcase : r5 = 0 ∨ r5 = 1 ∨ r5 = 2 := by omega
        rcases hcase with rfl | rfl | rfl
        · go_wp2_with (at_builtin; go_must (refine wpList_append_row rfl _ _ rfl el_int rfl (Row.alloc HD5.out _) _ _ [(256 : Int)] rfl (Rd.lit (by simp) rfl) (by simp [maxLen]; omega) (by simp; omega) ?_; intro A6 c6 g6 w6 l6 hl6 hle1 hle2 hrow6 hg6 hgg6; have K4 := Loc.carry L44 (fun h => by ((repeat (first | with_reducible exact h | with_reducible refine Loc.drew ?_ | with_reducible refine Loc.drewN ?_ _ | with_reducible refine Loc.alloc ?_ _)); done)) hg6 (by first | omega | (simp; omega) | (simp; done)); have KX := Loc.carry LX4 (fun h => by ((repeat (first | with_reducible exact h | with_reducible refine Loc.drew ?_ | with_reducible refine Loc.drewN ?_ _ | with_reducible refine Loc.alloc ?_ _)); done)) hg6 (by first | omega | (simp; omega) | (simp; done)); obtain ⟨y0, y1, y2, y3, yf⟩ := KX.four; obtain ⟨u0, u1, u2, u3, uf⟩ := K4.four; have zKX := KX.lt; have zK4 := K4.lt; have hz6 := hg6.size; (try simp at hz6); (try simp at hgg6); (try simp at hle1); obtain ⟨e2, rp6, he2⟩ := Row.renew HP5.out (Row.grown (Row.alloc HP5.out (.cells #[.int .i64 256] 3)) hg6 (Ne.symm d12)) (w6.heap.size + g6 + 1); obtain ⟨e3, rl6, he3⟩ := Row.renew HL5.out (Row.grown (Row.alloc HL5.out (.cells #[.int .i64 256] 3)) hg6 (Ne.symm d13)) (w6.heap.size + g6 + 2); have HP6 := Lib.hid rp6; have HL6 := Lib.hid rl6; have hRx : Rdr w6 115 B R (p3 + 1 + 1) := Rdr.grown (p := p3 + 1 + 1) (Rdr.alloc hR5 _) hg6 (by omega) dR1; have HG6 : Hid (w.grownBy w6 (some R)) := Lib.hid (grownBy_new hg6 (by omega) (grownBy_alloc HG5.out _)); clear rp6 rl6))
          refine bodyPost_ret (v := .agg #[.slice A6 l6.length c6, .slice A1 pl.length c1, .slice A3 ln.length c3, .int .i64 m]) (by simp [results, Try.results73, go_sem, *]; done) rfl ?_
          exact ⟨_, _, _, _, ⟨l6, pl, ln, m⟩, p3 + 1 + 1, rfl, stackOwn_rows (g1 := g6) (g2 := e2) (g3 := e3) (by repeat (first | with_reducible exact hrow6 | with_reducible refine Row.drew ?_ | with_reducible refine Row.drewN ?_ _ | with_reducible refine Row.alloc ?_ _ | (with_reducible refine Row.below ?_ (by assumption)) | ((with_reducible refine Row.other ?_ ?_ _); rotate_left; (focus (first | omega | (simp; omega) | (simp; done)))) | ((with_reducible refine Row.far' (by assumption) ?_ ?_); (focus (first | omega | (simp; omega) | (simp; done)))))) (by repeat (first | with_reducible exact HP6.out | with_reducible refine Row.drew ?_ | with_reducible refine Row.drewN ?_ _ | with_reducible refine Row.alloc ?_ _ | (with_reducible refine Row.below ?_ (by assumption)) | ((with_reducible refine Row.other ?_ ?_ _); rotate_left; (focus (first | omega | (simp; omega) | (simp; done)))) | ((with_reducible refine Row.far' (by assumption) ?_ ?_); (focus (first | omega | (simp; omega) | (simp; done)))))) (by repeat (first | with_reducible exact HL6.out | with_reducible refine Row.drew ?_ | with_reducible refine Row.drewN ?_ _ | with_reducible refine Row.alloc ?_ _ | (with_reducible refine Row.below ?_ (by assumption)) | ((with_reducible refine Row.other ?_ ?_ _); rotate_left; (focus (first | omega | (simp; omega) | (simp; done)))) | ((with_reducible refine Row.far' (by assumption) ?_ ?_); (focus (first | omega | (simp; omega) | (simp; done)))))) (by omega) (by omega) (by omega) ⟨by omega, by omega, by omega⟩ (Nat.le_refl _), by unfold sizeStack; simp only; omega, HCNT.out, (by ((repeat (first | with_reducible assumption | with_reducible refine Rdr.drew ?_ | with_reducible refine Rdr.drewN ?_ _ | with_reducible refine Rdr.alloc ?_ _ | with_reducible refine Rdr.other ?_ _ _ ?_ ?_ | omega)); done)), by omega, by omega, (by repeat (first | with_reducible exact HG6.out | with_reducible refine grownBy_drew ?_ | with_reducible refine grownBy_drewN ?_ _ | with_reducible refine grownBy_alloc ?_ _ | (with_reducible refine grownBy_below ?_ (by assumption)) | ((with_reducible refine grownBy_set ?_ ?_ _ _); rotate_left; (focus (first | omega | (simp; omega) | (simp; done)))) | ((with_reducible refine grownBy_trans ?_ (by assumption)); done) | ((with_reducible refine grownBy_new (by assumption) ?_ ?_); (focus (first | omega | (simp; omega) | (simp; done))))))⟩
        · go_wp2_with (at_builtin; go_must (refine wpList_append_row rfl _ _ rfl elPartS rfl (Row.alloc HP5.out _) _ _ [(⟨sz, 1⟩ : Pt)] rfl (Rd.lit (by simp) rfl) (by simp [maxLen]; omega) (by simp; omega) ?_; intro A6 c6 g6 w6 l6 hl6 hle1 hle2 hrow6 hg6 hgg6; have K4 := Loc.carry L44 (fun h => by ((repeat (first | with_reducible exact h | with_reducible refine Loc.drew ?_ | with_reducible refine Loc.drewN ?_ _ | with_reducible refine Loc.alloc ?_ _)); done)) hg6 (by first | omega | (simp; omega) | (simp; done)); have KX := Loc.carry LX4 (fun h => by ((repeat (first | with_reducible exact h | with_reducible refine Loc.drew ?_ | with_reducible refine Loc.drewN ?_ _ | with_reducible refine Loc.alloc ?_ _)); done)) hg6 (by first | omega | (simp; omega) | (simp; done)); obtain ⟨y0, y1, y2, y3, yf⟩ := KX.four; obtain ⟨u0, u1, u2, u3, uf⟩ := K4.four; have zKX := KX.lt; have zK4 := K4.lt; have hz6 := hg6.size; (try simp at hz6); (try simp at hgg6); (try simp at hle1); obtain ⟨e1, rd6, he1⟩ := Row.renew HD5.out (Row.grown (Row.alloc HD5.out (.cells #[.int .i64 sz, .int .i64 1] 55)) hg6 d12) (w6.heap.size + g6 + 1); obtain ⟨e3, rl6, he3⟩ := Row.renew HL5.out (Row.grown (Row.alloc HL5.out (.cells #[.int .i64 sz, .int .i64 1] 55)) hg6 (Ne.symm d23)) (w6.heap.size + g6 + 2); have HD6 := Lib.hid rd6; have HL6 := Lib.hid rl6; have hRx : Rdr w6 115 B R (p3 + 1 + 1) := Rdr.grown (p := p3 + 1 + 1) (Rdr.alloc hR5 _) hg6 (by omega) dR2; have HG6 : Hid (w.grownBy w6 (some R)) := Lib.hid (grownBy_new hg6 (by omega) (grownBy_alloc HG5.out _)); clear rd6 rl6))
          have HC6 : Hid (∀ y ∈ l6, y.cnt ≤ 5) := Lib.hid (by
            rw [hl6.out]
            intro y hy
            rcases List.mem_append.1 hy with h1 | h1
            · exact HCNT.out y h1
            · simp at h1; rw [h1]; simp)
          refine bodyPost_ret (v := .agg #[.slice A2 lk.length c2, .slice A6 l6.length c6, .slice A3 ln.length c3, .int .i64 m]) (by simp [results, Try.results73, go_sem, *]; done) rfl ?_
          exact ⟨_, _, _, _, ⟨lk, l6, ln, m⟩, p3 + 1 + 1, rfl, stackOwn_rows (g1 := e1) (g2 := g6) (g3 := e3) (by repeat (first | with_reducible exact HD6.out | with_reducible refine Row.drew ?_ | with_reducible refine Row.drewN ?_ _ | with_reducible refine Row.alloc ?_ _ | (with_reducible refine Row.below ?_ (by assumption)) | ((with_reducible refine Row.other ?_ ?_ _); rotate_left; (focus (first | omega | (simp; omega) | (simp; done)))) | ((with_reducible refine Row.far' (by assumption) ?_ ?_); (focus (first | omega | (simp; omega) | (simp; done)))))) (by repeat (first | with_reducible exact hrow6 | with_reducible refine Row.drew ?_ | with_reducible refine Row.drewN ?_ _ | with_reducible refine Row.alloc ?_ _ | (with_reducible refine Row.below ?_ (by assumption)) | ((with_reducible refine Row.other ?_ ?_ _); rotate_left; (focus (first | omega | (simp; omega) | (simp; done)))) | ((with_reducible refine Row.far' (by assumption) ?_ ?_); (focus (first | omega | (simp; omega) | (simp; done)))))) (by repeat (first | with_reducible exact HL6.out | with_reducible refine Row.drew ?_ | with_reducible refine Row.drewN ?_ _ | with_reducible refine Row.alloc ?_ _ | (with_reducible refine Row.below ?_ (by assumption)) | ((with_reducible refine Row.other ?_ ?_ _); rotate_left; (focus (first | omega | (simp; omega) | (simp; done)))) | ((with_reducible refine Row.far' (by assumption) ?_ ?_); (focus (first | omega | (simp; omega) | (simp; done)))))) (by omega) (by omega) (by omega) ⟨by omega, by omega, by omega⟩ (Nat.le_refl _), by unfold sizeStack; simp only; omega, HC6.out, (by ((repeat (first | with_reducible assumption | with_reducible refine Rdr.drew ?_ | with_reducible refine Rdr.drewN ?_ _ | with_reducible refine Rdr.alloc ?_ _ | with_reducible refine Rdr.other ?_ _ _ ?_ ?_ | omega)); done)), by omega, by omega, (by repeat (first | with_reducible exact HG6.out | with_reducible refine grownBy_drew ?_ | with_reducible refine grownBy_drewN ?_ _ | with_reducible refine grownBy_alloc ?_ _ | (with_reducible refine grownBy_below ?_ (by assumption)) | ((with_reducible refine grownBy_set ?_ ?_ _ _); rotate_left; (focus (first | omega | (simp; omega) | (simp; done)))) | ((with_reducible refine grownBy_trans ?_ (by assumption)); done) | ((with_reducible refine grownBy_new (by assumption) ?_ ?_); (focus (first | omega | (simp; omega) | (simp; done))))))⟩
        · go_wp2
          refine bodyPost_ret (v := .agg #[.slice A2 lk.length c2, .slice A1 pl.length c1, .slice A3 ln.length c3, .int .i64 0]) (by simp [results, Try.results73, go_sem, *]; done) rfl ?_
          exact ⟨_, _, _, _, ⟨lk, pl, ln, 0⟩, p3 + 1 + 1, rfl, stackOwn_rows (g1 := d1) (g2 := d2) (g3 := d3) (by repeat (first | with_reducible exact HD5.out | with_reducible refine Row.drew ?_ | with_reducible refine Row.drewN ?_ _ | with_reducible refine Row.alloc ?_ _ | (with_reducible refine Row.below ?_ (by assumption)) | ((with_reducible refine Row.other ?_ ?_ _); rotate_left; (focus (first | omega | (simp; omega) | (simp; done)))) | ((with_reducible refine Row.far' (by assumption) ?_ ?_); (focus (first | omega | (simp; omega) | (simp; done)))))) (by repeat (first | with_reducible exact HP5.out | with_reducible refine Row.drew ?_ | with_reducible refine Row.drewN ?_ _ | with_reducible refine Row.alloc ?_ _ | (with_reducible refine Row.below ?_ (by assumption)) | ((with_reducible refine Row.other ?_ ?_ _); rotate_left; (focus (first | omega | (simp; omega) | (simp; done)))) | ((with_reducible refine Row.far' (by assumption) ?_ ?_); (focus (first | omega | (simp; omega) | (simp; done)))))) (by repeat (first | with_reducible exact HL5.out | with_reducible refine Row.drew ?_ | with_reducible refine Row.drewN ?_ _ | with_reducible refine Row.alloc ?_ _ | (with_reducible refine Row.below ?_ (by assumption)) | ((with_reducible refine Row.other ?_ ?_ _); rotate_left; (focus (first | omega | (simp; omega) | (simp; done)))) | ((with_reducible refine Row.far' (by assumption) ?_ ?_); (focus (first | omega | (simp; omega) | (simp; done)))))) (by omega) (by omega) (by omega) ⟨by omega, by omega, by omega⟩ (Nat.le_refl _), by unfold sizeStack; simp only; omega, HCNT.out, (by ((repeat (first | with_reducible assumption | with_reducible refine Rdr.drew ?_ | with_reducible refine Rdr.drewN ?_ _ | with_reducible refine Rdr.alloc ?_ _ | with_reducible refine Rdr.other ?_ _ _ ?_ ?_ | omega)); done)), by omega, by omega, (by repeat (first | with_reducible exact HG5.out | with_reducible refine grownBy_drew ?_ | with_reducible refine grownBy_drewN ?_ _ | with_reducible refine grownBy_alloc ?_ _ | (with_reducible refine grownBy_below ?_ (by assumption)) | ((with_reducible refine grownBy_set ?_ ?_ _ _); rotate_left; (focus (first | omega | (simp; omega) | (simp; done)))) | ((with_reducible refine grownBy_trans ?_ (by assumption)); done) | ((with_reducible refine grownBy_new (by assumption) ?_ ?_); (focus (first | omega | (simp; omega) | (simp; done))))))⟩
end Go.Proofs.Ytlhbjfjphckifaa
