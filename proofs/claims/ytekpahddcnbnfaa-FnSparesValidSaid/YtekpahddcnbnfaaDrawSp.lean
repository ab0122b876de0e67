/-
  What the draws for the laws on spare sectors give. Conditions: the count of draws stays below 10^9.
-/
import Derived.Test.YtekpahddcnbnfaaBase
import Derived.Test.YtekpahddcnbnfaaNum
import Derived.Test.YtekpahddcnbnfaaInts
import Derived.Test.YtekpahddcnbnfaaApp
import Derived.Test.YtekpahddcnbnfaaIntsW
import Derived.Test.YtekpahddcnbnfaaLib
import Derived.Test.YtekpahddcnbnfaaSpares
import Derived.Test.YtekpahddcnbnfaaHome
import Derived.Test.YtekpahddcnbnfaaMark
import Derived.Test.YtekpahddcnbnfaaMarkS
import Derived.Test.YtekpahddcnbnfaaMarkA
import Derived.Test.YtekpahddcnbnfaaOwn
import Derived.Test.YtekpahddcnbnfaaSparesO
import Derived.Test.YtekpahddcnbnfaaDraw
import Derived.Test.YtekpahddcnbnfaaDrawK
import Derived.IntWalk
namespace Go.Proofs.Ytekpahddcnbnfaa
open Go.RowKit
/-- Drawn spares: a list of its own; the reader has gone on. -/
def DrawnSpares (w : World) (B R : Nat) (p : Int) (e : Ending) (w' : World) : Prop :=
  ∃ (s : Sp) (A : Option Addr) (c g : Nat) (p' : Int), e = .returned (.agg #[.int .i64 s.sec, .int .i64 s.cnt, .slice A s.bad.length c]) ∧ w.heap.size ≤ g ∧ g ≠ R ∧ Row eInt w' g 3 A c s.bad ∧ 0 ≤ s.sec ∧ s.sec ≤ 100001 ∧ -1 ≤ s.cnt ∧ s.cnt ≤ 17 ∧ s.bad.length ≤ 10 ∧ Rdr w' 54 B R p' ∧ p ≤ p' ∧ p' ≤ p + 100 ∧ w.grownBy w' (some R)
theorem markB_bd (s : Sp) (a : Int) (h0 : 0 ≤ s.sec) (h1 : s.sec ≤ 9) (h2 : 0 ≤ s.cnt) (h3 : s.cnt ≤ 5) : 0 ≤ (markB s a).sec ∧ (markB s a).sec ≤ 9 ∧ 0 ≤ (markB s a).cnt ∧ (markB s a).cnt ≤ 5 := by
  unfold markB; split
  · split
    · exact ⟨h0, h1, h2, h3⟩
    · exact ⟨h0, h1, h2, h3⟩
  · exact ⟨by simp, by simp, by simp, by simp⟩
set_option maxHeartbeats 4000000 in
theorem l20Spares_any (B R : Nat) (p n : Int) (w : World) (h : Rdr w 54 B R p) (hp0 : 0 ≤ p) (hp1 : p ≤ 100000000) (hn1 : 1 ≤ n) (hn : n ≤ 1000000) :
    Calls Try.prog 34 #[.pointer (some ⟨R, 0, none⟩), .int .i64 n] w (DrawnSpares w B R p) := by
  have hBR := h.ge
  have hRl := h.lt
  have L4 := Loc.new w [.int .i64 0, .int .i64 0, .slice none 0 0] 27
  go_enter Try.func34, Try.ntmps34
  go_wp2_with fail
  refine (pick_any B R (p) (9) _ (by ((repeat (first | with_reducible assumption | with_reducible refine Rdr.drew ?_ | with_reducible refine Rdr.drewN ?_ _ | with_reducible refine Rdr.alloc ?_ _ | with_reducible refine Rdr.other ?_ _ _ ?_ ?_ | omega)); done)) (by omega) (by omega) (by omega)).mono ?_
  rintro e w1 ⟨r1, rfl, a1, b1, hR1, hg1⟩
  have b1' := b1 (by omega)
  clear b1
  replace hR1 := hR1.to (p' := p + 1) (by omega)
  have hz1 := hg1.size
  (try simp at hz1)
  have hlt1 := hR1.lt
  have ne1 : w1.heap.size ≠ R := by omega
  replace L4 := Loc.carry L4 (fun h => by ((repeat (first | with_reducible exact h | with_reducible refine Loc.drew ?_ | with_reducible refine Loc.drewN ?_ _ | with_reducible refine Loc.alloc ?_ _)); done)) hg1 (by omega)
  have HG1 := Lib.hid (grownBy_trans (grownBy_alloc (grownBy_refl w (some R)) _) hg1)
  clear hg1
  go_wp2_with fail
  refine (pick_any B R (p + 1) (6) _ (by ((repeat (first | with_reducible assumption | with_reducible refine Rdr.drew ?_ | with_reducible refine Rdr.drewN ?_ _ | with_reducible refine Rdr.alloc ?_ _ | with_reducible refine Rdr.other ?_ _ _ ?_ ?_ | omega)); done)) (by omega) (by omega) (by omega)).mono ?_
  rintro e w2 ⟨r2, rfl, a2, b2, hR2, hg2⟩
  have b2' := b2 (by omega)
  clear b2
  replace hR2 := hR2.to (p' := p + 1 + 1) (by omega)
  have hz2 := hg2.size
  (try simp at hz2)
  have hlt2 := hR2.lt
  have ne2 : w2.heap.size ≠ R := by omega
  replace L4 := Loc.carry L4 (fun h => by ((repeat (first | with_reducible exact h | with_reducible refine Loc.drew ?_ | with_reducible refine Loc.drewN ?_ _ | with_reducible refine Loc.alloc ?_ _)); done)) hg2 (by omega)
  have HG2 := Lib.hid (grownBy_trans HG1.out hg2)
  clear hg2
  have LS := Loc.newAt w2 [.int .i64 (1 + r1), .int .i64 r2, .slice none 0 0] 27 (b := w2.heap.size) rfl
  go_wp2_with fail
  refine (pick_any B R (p + 1 + 1) (7) _ (by ((repeat (first | with_reducible assumption | with_reducible refine Rdr.drew ?_ | with_reducible refine Rdr.drewN ?_ _ | with_reducible refine Rdr.alloc ?_ _ | with_reducible refine Rdr.other ?_ _ _ ?_ ?_ | omega)); done)) (by omega) (by omega) (by omega)).mono ?_
  rintro e w3 ⟨r3, rfl, a3, b3, hR3, hg3⟩
  have b3' := b3 (by omega)
  clear b3
  replace hR3 := hR3.to (p' := p + 1 + 1 + 1) (by omega)
  have hz3 := hg3.size
  (try simp at hz3)
  have hlt3 := hR3.lt
  have ne3 : w3.heap.size ≠ R := by omega
  replace L4 := Loc.carry L4 (fun h => by ((repeat (first | with_reducible exact h | with_reducible refine Loc.drew ?_ | with_reducible refine Loc.drewN ?_ _ | with_reducible refine Loc.alloc ?_ _)); done)) hg3 (by omega)
  replace LS := Loc.carry LS (fun h => by ((repeat (first | with_reducible exact h | with_reducible refine Loc.drew ?_ | with_reducible refine Loc.drewN ?_ _ | with_reducible refine Loc.alloc ?_ _)); done)) hg3 (by omega)
  have HG3 := Lib.hid (grownBy_trans (grownBy_alloc HG2.out _) hg3)
  clear hg3
  go_wp2
  go_loopw [6] (fun kk wr => ∃ k q : Int, kk = .int .i64 k ∧ 0 ≤ k ∧ k ≤ 6 ∧ p ≤ q ∧ q + k ≤ p + 10 ∧ Rdr wr 54 B R q ∧ w.grownBy wr (some R) ∧ w2.heap.size < wr.heap.size ∧ Loc wr w.heap.size [.int .i64 0, .int .i64 0, .slice none 0 0] ∧ ∃ (s : Sp) (A1 : Option Addr) (c1 g1 : Nat), Loc wr w2.heap.size [.int .i64 s.sec, .int .i64 s.cnt, .slice A1 s.bad.length c1] ∧ (0 ≤ s.sec ∧ s.sec ≤ 9 ∧ 0 ≤ s.cnt ∧ s.cnt ≤ 5) ∧ s.bad.length + k ≤ 6 ∧ (g1 ≠ R ∧ w2.heap.size < g1) ∧ Row eInt wr g1 3 A1 c1 s.bad) (fun kk _ => (intOf kk).toNat)
  case atStart => exact ⟨r3, p + 3, rfl, by omega, by omega, by omega, by omega, hR3.to (by omega), HG3.out, by omega, L4, ⟨1 + r1, r2, []⟩, none, 0, w2.heap.size + R + 1, LS, by simp only; omega, by simp; omega, by omega, Row.nil _ _ _⟩
  case round =>
    obtain ⟨k, q, rfl, k0, k1, q0, q1, hRq, hgw, hzr, L4, s, A1, c1, g1, LS, hsb, hlk, ⟨hg1R, hg1w⟩, hrow⟩ := hrel
    obtain ⟨s0, s1, s2, s3⟩ := hsb
    have hz0 := hgw.size
    have hRr := hRq.lt
    have zS := LS.lt
    have HROW := Lib.hid hrow
    have HGW := Lib.hid hgw
    obtain ⟨x0, x1, x2, xf⟩ := LS.three
    clear hrow hgw
    by_cases hk : 0 < k
    · have hMB := Lib.hid (markB_bd s)
      have hMZ := Lib.hid (markB_size s)
      go_wp2_with fail
      go_region_with (first
        | (go_at_call 37; (with_reducible refine (pick_any B R q s.sec _ (by ((repeat (first | with_reducible assumption | with_reducible refine Rdr.drew ?_ | with_reducible refine Rdr.drewN ?_ _ | with_reducible refine Rdr.alloc ?_ _ | with_reducible refine Rdr.other ?_ _ _ ?_ ?_ | omega)); done)) (by omega) (by omega) (by omega)).mono ?_); rintro e w4 ⟨r4, rfl, a4, b4, hR4, hg4⟩; clear b4; have LS4 := Loc.carry LS (fun h => by ((repeat (first | with_reducible exact h | with_reducible refine Loc.drew ?_ | with_reducible refine Loc.drewN ?_ _ | with_reducible refine Loc.alloc ?_ _)); done)) hg4 (by omega); have L44 := Loc.carry L4 (fun h => by ((repeat (first | with_reducible exact h | with_reducible refine Loc.drew ?_ | with_reducible refine Loc.drewN ?_ _ | with_reducible refine Loc.alloc ?_ _)); done)) hg4 (by omega); have HROW4 := Lib.hid (Row.far' hg4 hg1R (Row.drew HROW.out)); have HGW4 := Lib.hid (grownBy_trans (grownBy_drew HGW.out) hg4); obtain ⟨y0, y1, y2, yf⟩ := LS4.three; have hz4 := hg4.size; (try simp at hz4); have zS4 := LS4.lt; have mb := hMB.out r4 s0 s1 s2 s3; have mz := hMZ.out r4; unfold sizeSpares at mz; clear hg4)
        | (go_at_call 20; (with_reducible refine (specMark_any s A1 c1 r4 _ (by repeat (first | with_reducible exact HROW4.out.rd | with_reducible refine Rd.drew ?_ | with_reducible refine Rd.drewN ?_ _ | with_reducible refine Rd.alloc ?_ _ | (with_reducible refine Rd.below ?_ (by assumption)))) (by omega)).mono ?_); obtain ⟨s', hs'⟩ : ∃ s', s' = markB s r4 := ⟨_, rfl⟩; rw [← hs']; rw [← hs'] at mb mz; clear hs'; rintro e w5 ⟨A5, c5, g5, rfl, hg5, row5, hb5⟩; have LS5 := Loc.carryB LS4 (fun h => by ((repeat (first | with_reducible exact h | with_reducible refine Loc.drew ?_ | with_reducible refine Loc.drewN ?_ _ | with_reducible refine Loc.alloc ?_ _)); done)) hb5; have L45 := Loc.carryB L44 (fun h => by ((repeat (first | with_reducible exact h | with_reducible refine Loc.drew ?_ | with_reducible refine Loc.drewN ?_ _ | with_reducible refine Loc.alloc ?_ _)); done)) hb5; have hR5 := hR4.below hb5; have HGW5 := Lib.hid (grownBy_below HGW4.out hb5); obtain ⟨z0, z1, z2, zf⟩ := LS5.three; have hz5 := hb5.size; (try simp at hz5); have zS5 := LS5.lt; clear hb5))
      all_goals
        obtain ⟨m0, m1, m2, m3⟩ := mb
        go_wp2
        go_roundw
        case rel =>
          refine ⟨k - 1, q + 1, rfl, by omega, by omega, by omega, by omega, (by ((repeat (first | with_reducible assumption | with_reducible refine Rdr.drew ?_ | with_reducible refine Rdr.drewN ?_ _ | with_reducible refine Rdr.alloc ?_ _ | with_reducible refine Rdr.other ?_ _ _ ?_ ?_ | omega)); done)), (by repeat (first | with_reducible exact HGW5.out | with_reducible refine grownBy_drew ?_ | with_reducible refine grownBy_drewN ?_ _ | with_reducible refine grownBy_alloc ?_ _ | (with_reducible refine grownBy_below ?_ (by assumption)) | ((with_reducible refine grownBy_set ?_ ?_ _ _); rotate_left; (focus (first | omega | (simp; omega) | (simp; done)))) | ((with_reducible refine grownBy_trans ?_ (by assumption)); done) | ((with_reducible refine grownBy_new (by assumption) ?_ ?_); (focus (first | omega | (simp; omega) | (simp; done)))))), by simp; omega, ?_, s', A5, c5, g5, ?_, ⟨by omega, by omega, by omega, by omega⟩, by omega, ⟨by omega, by omega⟩, (by repeat (first | with_reducible exact row5 | with_reducible refine Row.drew ?_ | with_reducible refine Row.drewN ?_ _ | with_reducible refine Row.alloc ?_ _ | (with_reducible refine Row.below ?_ (by assumption)) | ((with_reducible refine Row.other ?_ ?_ _); rotate_left; (focus (first | omega | (simp; omega) | (simp; done)))) | ((with_reducible refine Row.far' (by assumption) ?_ ?_); (focus (first | omega | (simp; omega) | (simp; done))))))⟩
          · exact (by repeat (first | with_reducible assumption | with_reducible apply Loc.fill3 | with_reducible apply Loc.fill2 | ((with_reducible refine Loc.newAt' ?_ rfl); (focus (first | with_reducible rfl | omega | (simp; omega) | (simp; done)))) | with_reducible refine Loc.drew ?_ | with_reducible refine Loc.drewN ?_ _ | with_reducible refine Loc.alloc ?_ _ | (with_reducible refine Loc.below ?_ (by assumption)) | ((with_reducible refine Loc.other' ?_ ?_ _); (focus (first | omega | (simp; omega) | (simp; done)))) | ((with_reducible refine Loc.far' (by assumption) ?_ ?_); (focus (first | omega | (simp; omega) | (simp; done))))))
          · exact (by repeat (first | with_reducible assumption | with_reducible apply Loc.fill3 | with_reducible apply Loc.fill2 | ((with_reducible refine Loc.newAt' ?_ rfl); (focus (first | with_reducible rfl | omega | (simp; omega) | (simp; done)))) | with_reducible refine Loc.drew ?_ | with_reducible refine Loc.drewN ?_ _ | with_reducible refine Loc.alloc ?_ _ | (with_reducible refine Loc.below ?_ (by assumption)) | ((with_reducible refine Loc.other' ?_ ?_ _); (focus (first | omega | (simp; omega) | (simp; done)))) | ((with_reducible refine Loc.far' (by assumption) ?_ ?_); (focus (first | omega | (simp; omega) | (simp; done))))))
        case measure => simp [intOf]; omega
    · have zL := L4.lt
      have hg1L : g1 ≠ w.heap.size := by omega
      clear x0 x1 x2 xf
      go_wp2_with fail
      refine (odd_any B R (q) (n) _ (by ((repeat (first | with_reducible assumption | with_reducible refine Rdr.drew ?_ | with_reducible refine Rdr.drewN ?_ _ | with_reducible refine Rdr.alloc ?_ _ | with_reducible refine Rdr.other ?_ _ _ ?_ ?_ | omega)); done)) (by omega) (by omega) (by omega) (by omega)).mono ?_
      rintro e w4 ⟨r4, rfl, hR4, hg4⟩
      replace hR4 := hR4.to (p' := q + 1) (by omega)
      have hz4 := hg4.size
      (try simp at hz4)
      have hlt4 := hR4.lt
      have ne4 : w4.heap.size ≠ R := by omega
      replace L4 := Loc.carry L4 (fun h => by ((repeat (first | with_reducible exact h | with_reducible refine Loc.drew ?_ | with_reducible refine Loc.drewN ?_ _ | with_reducible refine Loc.alloc ?_ _)); done)) hg4 (by omega)
      replace LS := Loc.carry LS (fun h => by ((repeat (first | with_reducible exact h | with_reducible refine Loc.drew ?_ | with_reducible refine Loc.drewN ?_ _ | with_reducible refine Loc.alloc ?_ _)); done)) hg4 (by omega)
      have HROW4 := Lib.hid (Row.far' hg4 hg1R HROW.out)
      have HGW4 := Lib.hid (grownBy_trans HGW.out hg4)
      clear hg4 HROW HGW
      cases r4
      · obtain ⟨x0, x1, x2, xf⟩ := LS.three
        obtain ⟨y0, y1, y2, yf⟩ := L4.three
        go_wp2
        refine bodyPost_ret (v := .agg #[.int .i64 s.sec, .int .i64 s.cnt, .slice A1 (s.bad).length c1]) (by simp [results, Try.results34, go_sem, *]; done) rfl ?_
        exact ⟨⟨s.sec, s.cnt, s.bad⟩, A1, c1, g1, q + 1, rfl, by omega, by omega, (by repeat (first | with_reducible exact HROW4.out | with_reducible refine Row.drew ?_ | with_reducible refine Row.drewN ?_ _ | with_reducible refine Row.alloc ?_ _ | (with_reducible refine Row.below ?_ (by assumption)) | ((with_reducible refine Row.other ?_ ?_ _); rotate_left; (focus (first | omega | (simp; omega) | (simp; done)))) | ((with_reducible refine Row.far' (by assumption) ?_ ?_); (focus (first | omega | (simp; omega) | (simp; done)))))), (by first | omega | (focus (simp; omega)) | (focus (simp; done))), (by first | omega | (focus (simp; omega)) | (focus (simp; done))), (by first | omega | (focus (simp; omega)) | (focus (simp; done))), (by first | omega | (focus (simp; omega)) | (focus (simp; done))), (by first | omega | (focus (simp; omega)) | (focus (simp; done))), (by ((repeat (first | with_reducible assumption | with_reducible refine Rdr.drew ?_ | with_reducible refine Rdr.drewN ?_ _ | with_reducible refine Rdr.alloc ?_ _ | with_reducible refine Rdr.other ?_ _ _ ?_ ?_ | omega)); done)), by omega, by omega, (by repeat (first | with_reducible exact HGW4.out | with_reducible refine grownBy_drew ?_ | with_reducible refine grownBy_drewN ?_ _ | with_reducible refine grownBy_alloc ?_ _ | (with_reducible refine grownBy_below ?_ (by assumption)) | ((with_reducible refine grownBy_set ?_ ?_ _ _); rotate_left; (focus (first | omega | (simp; omega) | (simp; done)))) | ((with_reducible refine grownBy_trans ?_ (by assumption)); done) | ((with_reducible refine grownBy_new (by assumption) ?_ ?_); (focus (first | omega | (simp; omega) | (simp; done))))))⟩
      · go_wp2_with fail
        refine (pick_any B R (q + 1) (4) _ (by ((repeat (first | with_reducible assumption | with_reducible refine Rdr.drew ?_ | with_reducible refine Rdr.drewN ?_ _ | with_reducible refine Rdr.alloc ?_ _ | with_reducible refine Rdr.other ?_ _ _ ?_ ?_ | omega)); done)) (by omega) (by omega) (by omega)).mono ?_
        rintro e w5 ⟨r5, rfl, a5, b5, hR5, hg5⟩
        have b5' := b5 (by omega)
        clear b5
        replace hR5 := hR5.to (p' := q + 1 + 1) (by omega)
        have hz5 := hg5.size
        (try simp at hz5)
        have hlt5 := hR5.lt
        have ne5 : w5.heap.size ≠ R := by omega
        replace L4 := Loc.carry L4 (fun h => by ((repeat (first | with_reducible exact h | with_reducible refine Loc.drew ?_ | with_reducible refine Loc.drewN ?_ _ | with_reducible refine Loc.alloc ?_ _)); done)) hg5 (by omega)
        replace LS := Loc.carry LS (fun h => by ((repeat (first | with_reducible exact h | with_reducible refine Loc.drew ?_ | with_reducible refine Loc.drewN ?_ _ | with_reducible refine Loc.alloc ?_ _)); done)) hg5 (by omega)
        have HROW5 := Lib.hid (Row.far' hg5 hg1R HROW4.out)
        have HGW5 := Lib.hid (grownBy_trans HGW4.out hg5)
        clear hg5 HROW4 HGW4
        have hcase : r5 = 0 ∨ r5 = 1 ∨ r5 = 2 ∨ r5 = 3 := by omega
        rcases hcase with rfl | rfl | rfl | rfl
        · go_wp2_with fail
          refine (pick_any B R (q + 1 + 1) (2) _ (by ((repeat (first | with_reducible assumption | with_reducible refine Rdr.drew ?_ | with_reducible refine Rdr.drewN ?_ _ | with_reducible refine Rdr.alloc ?_ _ | with_reducible refine Rdr.other ?_ _ _ ?_ ?_ | omega)); done)) (by omega) (by omega) (by omega)).mono ?_
          rintro e w6 ⟨r6, rfl, a6, b6, hR6, hg6⟩
          have b6' := b6 (by omega)
          clear b6
          replace hR6 := hR6.to (p' := q + 1 + 1 + 1) (by omega)
          have hz6 := hg6.size
          (try simp at hz6)
          have hlt6 := hR6.lt
          have ne6 : w6.heap.size ≠ R := by omega
          have LL := Loc.lits [0, 100001] (w := w6) (b := w5.heap.size) (cs := [.int .i64 0, .int .i64 100001]) (by repeat (first | with_reducible assumption | with_reducible apply Loc.fill3 | with_reducible apply Loc.fill2 | ((with_reducible refine Loc.newAt' ?_ rfl); (focus (first | with_reducible rfl | omega | (simp; omega) | (simp; done)))) | with_reducible refine Loc.drew ?_ | with_reducible refine Loc.drewN ?_ _ | with_reducible refine Loc.alloc ?_ _ | (with_reducible refine Loc.below ?_ (by assumption)) | ((with_reducible refine Loc.other' ?_ ?_ _); (focus (first | omega | (simp; omega) | (simp; done)))) | ((with_reducible refine Loc.far' (by assumption) ?_ ?_); (focus (first | omega | (simp; omega) | (simp; done)))))) rfl
          replace L4 := Loc.carry L4 (fun h => by ((repeat (first | with_reducible exact h | with_reducible refine Loc.drew ?_ | with_reducible refine Loc.drewN ?_ _ | with_reducible refine Loc.alloc ?_ _)); done)) hg6 (by omega)
          replace LS := Loc.carry LS (fun h => by ((repeat (first | with_reducible exact h | with_reducible refine Loc.drew ?_ | with_reducible refine Loc.drewN ?_ _ | with_reducible refine Loc.alloc ?_ _)); done)) hg6 (by omega)
          have HROW6 := Lib.hid (Row.far' hg6 hg1R (Row.alloc HROW5.out _))
          have HGW6 := Lib.hid (grownBy_trans (grownBy_alloc HGW5.out _) hg6)
          clear hg6
          obtain ⟨x, hxm, hx⟩ := LL.at_int r6 a6 (by simp; omega)
          have hxb : 0 ≤ x ∧ x ≤ 100001 := by simp at hxm; omega
          obtain ⟨x0, x1, x2, xf⟩ := LS.three
          obtain ⟨y0, y1, y2, yf⟩ := L4.three
          clear hxm
          go_wp2
          refine bodyPost_ret (v := .agg #[.int .i64 x, .int .i64 s.cnt, .slice A1 (s.bad).length c1]) (by simp [results, Try.results34, go_sem, *]; done) rfl ?_
          exact ⟨⟨x, s.cnt, s.bad⟩, A1, c1, g1, q + 1 + 1 + 1, rfl, by omega, by omega, (by repeat (first | with_reducible exact HROW6.out | with_reducible refine Row.drew ?_ | with_reducible refine Row.drewN ?_ _ | with_reducible refine Row.alloc ?_ _ | (with_reducible refine Row.below ?_ (by assumption)) | ((with_reducible refine Row.other ?_ ?_ _); rotate_left; (focus (first | omega | (simp; omega) | (simp; done)))) | ((with_reducible refine Row.far' (by assumption) ?_ ?_); (focus (first | omega | (simp; omega) | (simp; done)))))), (by first | omega | (focus (simp; omega)) | (focus (simp; done))), (by first | omega | (focus (simp; omega)) | (focus (simp; done))), (by first | omega | (focus (simp; omega)) | (focus (simp; done))), (by first | omega | (focus (simp; omega)) | (focus (simp; done))), (by first | omega | (focus (simp; omega)) | (focus (simp; done))), (by ((repeat (first | with_reducible assumption | with_reducible refine Rdr.drew ?_ | with_reducible refine Rdr.drewN ?_ _ | with_reducible refine Rdr.alloc ?_ _ | with_reducible refine Rdr.other ?_ _ _ ?_ ?_ | omega)); done)), by omega, by omega, (by repeat (first | with_reducible exact HGW6.out | with_reducible refine grownBy_drew ?_ | with_reducible refine grownBy_drewN ?_ _ | with_reducible refine grownBy_alloc ?_ _ | (with_reducible refine grownBy_below ?_ (by assumption)) | ((with_reducible refine grownBy_set ?_ ?_ _ _); rotate_left; (focus (first | omega | (simp; omega) | (simp; done)))) | ((with_reducible refine grownBy_trans ?_ (by assumption)); done) | ((with_reducible refine grownBy_new (by assumption) ?_ ?_); (focus (first | omega | (simp; omega) | (simp; done))))))⟩
        · go_wp2_with fail
          refine (pick_any B R (q + 1 + 1) (2) _ (by ((repeat (first | with_reducible assumption | with_reducible refine Rdr.drew ?_ | with_reducible refine Rdr.drewN ?_ _ | with_reducible refine Rdr.alloc ?_ _ | with_reducible refine Rdr.other ?_ _ _ ?_ ?_ | omega)); done)) (by omega) (by omega) (by omega)).mono ?_
          rintro e w6 ⟨r6, rfl, a6, b6, hR6, hg6⟩
          have b6' := b6 (by omega)
          clear b6
          replace hR6 := hR6.to (p' := q + 1 + 1 + 1) (by omega)
          have hz6 := hg6.size
          (try simp at hz6)
          have hlt6 := hR6.lt
          have ne6 : w6.heap.size ≠ R := by omega
          have LL := Loc.lits [-1, 17] (w := w6) (b := w5.heap.size) (cs := [.int .i64 (-1), .int .i64 17]) (by repeat (first | with_reducible assumption | with_reducible apply Loc.fill3 | with_reducible apply Loc.fill2 | ((with_reducible refine Loc.newAt' ?_ rfl); (focus (first | with_reducible rfl | omega | (simp; omega) | (simp; done)))) | with_reducible refine Loc.drew ?_ | with_reducible refine Loc.drewN ?_ _ | with_reducible refine Loc.alloc ?_ _ | (with_reducible refine Loc.below ?_ (by assumption)) | ((with_reducible refine Loc.other' ?_ ?_ _); (focus (first | omega | (simp; omega) | (simp; done)))) | ((with_reducible refine Loc.far' (by assumption) ?_ ?_); (focus (first | omega | (simp; omega) | (simp; done)))))) rfl
          replace L4 := Loc.carry L4 (fun h => by ((repeat (first | with_reducible exact h | with_reducible refine Loc.drew ?_ | with_reducible refine Loc.drewN ?_ _ | with_reducible refine Loc.alloc ?_ _)); done)) hg6 (by omega)
          replace LS := Loc.carry LS (fun h => by ((repeat (first | with_reducible exact h | with_reducible refine Loc.drew ?_ | with_reducible refine Loc.drewN ?_ _ | with_reducible refine Loc.alloc ?_ _)); done)) hg6 (by omega)
          have HROW6 := Lib.hid (Row.far' hg6 hg1R (Row.alloc HROW5.out _))
          have HGW6 := Lib.hid (grownBy_trans (grownBy_alloc HGW5.out _) hg6)
          clear hg6
          obtain ⟨x, hxm, hx⟩ := LL.at_int r6 a6 (by simp; omega)
          have hxb : -1 ≤ x ∧ x ≤ 17 := by simp at hxm; omega
          obtain ⟨x0, x1, x2, xf⟩ := LS.three
          obtain ⟨y0, y1, y2, yf⟩ := L4.three
          clear hxm
          go_wp2
          refine bodyPost_ret (v := .agg #[.int .i64 s.sec, .int .i64 x, .slice A1 (s.bad).length c1]) (by simp [results, Try.results34, go_sem, *]; done) rfl ?_
          exact ⟨⟨s.sec, x, s.bad⟩, A1, c1, g1, q + 1 + 1 + 1, rfl, by omega, by omega, (by repeat (first | with_reducible exact HROW6.out | with_reducible refine Row.drew ?_ | with_reducible refine Row.drewN ?_ _ | with_reducible refine Row.alloc ?_ _ | (with_reducible refine Row.below ?_ (by assumption)) | ((with_reducible refine Row.other ?_ ?_ _); rotate_left; (focus (first | omega | (simp; omega) | (simp; done)))) | ((with_reducible refine Row.far' (by assumption) ?_ ?_); (focus (first | omega | (simp; omega) | (simp; done)))))), (by first | omega | (focus (simp; omega)) | (focus (simp; done))), (by first | omega | (focus (simp; omega)) | (focus (simp; done))), (by first | omega | (focus (simp; omega)) | (focus (simp; done))), (by first | omega | (focus (simp; omega)) | (focus (simp; done))), (by first | omega | (focus (simp; omega)) | (focus (simp; done))), (by ((repeat (first | with_reducible assumption | with_reducible refine Rdr.drew ?_ | with_reducible refine Rdr.drewN ?_ _ | with_reducible refine Rdr.alloc ?_ _ | with_reducible refine Rdr.other ?_ _ _ ?_ ?_ | omega)); done)), by omega, by omega, (by repeat (first | with_reducible exact HGW6.out | with_reducible refine grownBy_drew ?_ | with_reducible refine grownBy_drewN ?_ _ | with_reducible refine grownBy_alloc ?_ _ | (with_reducible refine grownBy_below ?_ (by assumption)) | ((with_reducible refine grownBy_set ?_ ?_ _ _); rotate_left; (focus (first | omega | (simp; omega) | (simp; done)))) | ((with_reducible refine grownBy_trans ?_ (by assumption)); done) | ((with_reducible refine grownBy_new (by assumption) ?_ ?_); (focus (first | omega | (simp; omega) | (simp; done))))))⟩
        · obtain ⟨x0, x1, x2, xf⟩ := LS.three
          obtain ⟨y0, y1, y2, yf⟩ := L4.three
          go_wp2_with (at_builtin; refine wpList_append_row (E := eInt) (A := A1) (c := c1) (g := g1) (l := s.bad) rfl _ _ rfl el_int rfl ?_ _ _ [s.sec + s.bad.length] rfl ?_ (by simp only [maxLen, List.length_cons, List.length_nil]; omega) (by simp only [List.length_cons, List.length_nil]; omega) ?_; (focus (exact (by repeat (first | with_reducible exact HROW5.out | with_reducible refine Row.drew ?_ | with_reducible refine Row.drewN ?_ _ | with_reducible refine Row.alloc ?_ _ | (with_reducible refine Row.below ?_ (by assumption)) | ((with_reducible refine Row.other ?_ ?_ _); rotate_left; (focus (first | omega | (simp; omega) | (simp; done)))) | ((with_reducible refine Row.far' (by assumption) ?_ ?_); (focus (first | omega | (simp; omega) | (simp; done)))))))); (focus (exact (by repeat (first | ((with_reducible refine Rd.lit ?_ ?_); (focus (first | with_reducible rfl | omega | (simp; omega) | (simp; done))); (focus (first | rfl | (simp; rfl) | (simp; done)))) | with_reducible refine Rd.drew ?_ | with_reducible refine Rd.drewN ?_ _ | with_reducible refine Rd.alloc ?_ _ | (with_reducible refine Rd.below ?_ (by assumption)))))); intro A6 c6 g6 w6 l6 hl6 hle1 hle2 hrow6 hg6 hgg6; have LS6 := Loc.carry LS (fun h => by ((repeat (first | with_reducible exact h | with_reducible refine Loc.drew ?_ | with_reducible refine Loc.drewN ?_ _ | with_reducible refine Loc.alloc ?_ _)); done)) hg6 (by omega); have L46 := Loc.carry L4 (fun h => by ((repeat (first | with_reducible exact h | with_reducible refine Loc.drew ?_ | with_reducible refine Loc.drewN ?_ _ | with_reducible refine Loc.alloc ?_ _)); done)) hg6 (by omega); obtain ⟨z0, z1, z2, zf⟩ := LS6.three; obtain ⟨v0, v1, v2, vf⟩ := L46.three; have zz := LS6.lt)
          simp only [List.length_cons, List.length_nil] at hle1 hle2
          have hz6 := hg6.size
          simp at hz6 hgg6
          have hR6 : Rdr w6 54 B R (q + 1 + 1) := Rdr.grown (by ((repeat (first | with_reducible assumption | with_reducible refine Rdr.drew ?_ | with_reducible refine Rdr.drewN ?_ _ | with_reducible refine Rdr.alloc ?_ _ | with_reducible refine Rdr.other ?_ _ _ ?_ ?_ | omega)); done)) hg6 (by omega) (by omega)
          refine bodyPost_ret (v := .agg #[.int .i64 s.sec, .int .i64 s.cnt, .slice A6 (l6).length c6]) (by simp [results, Try.results34, go_sem, *]; done) rfl ?_
          exact ⟨⟨s.sec, s.cnt, l6⟩, A6, c6, g6, q + 1 + 1, rfl, by omega, by omega, (by repeat (first | with_reducible exact hrow6 | with_reducible refine Row.drew ?_ | with_reducible refine Row.drewN ?_ _ | with_reducible refine Row.alloc ?_ _ | (with_reducible refine Row.below ?_ (by assumption)) | ((with_reducible refine Row.other ?_ ?_ _); rotate_left; (focus (first | omega | (simp; omega) | (simp; done)))) | ((with_reducible refine Row.far' (by assumption) ?_ ?_); (focus (first | omega | (simp; omega) | (simp; done)))))), (by first | omega | (focus (simp; omega)) | (focus (simp; done))), (by first | omega | (focus (simp; omega)) | (focus (simp; done))), (by first | omega | (focus (simp; omega)) | (focus (simp; done))), (by first | omega | (focus (simp; omega)) | (focus (simp; done))), (by first | omega | (focus (simp; omega)) | (focus (simp; done))), (by ((repeat (first | with_reducible assumption | with_reducible refine Rdr.drew ?_ | with_reducible refine Rdr.drewN ?_ _ | with_reducible refine Rdr.alloc ?_ _ | with_reducible refine Rdr.other ?_ _ _ ?_ ?_ | omega)); done)), by omega, by omega, (by repeat (first | with_reducible exact HGW5.out | with_reducible refine grownBy_drew ?_ | with_reducible refine grownBy_drewN ?_ _ | with_reducible refine grownBy_alloc ?_ _ | (with_reducible refine grownBy_below ?_ (by assumption)) | ((with_reducible refine grownBy_set ?_ ?_ _ _); rotate_left; (focus (first | omega | (simp; omega) | (simp; done)))) | ((with_reducible refine grownBy_trans ?_ (by assumption)); done) | ((with_reducible refine grownBy_new (by assumption) ?_ ?_); (focus (first | omega | (simp; omega) | (simp; done))))))⟩
        · obtain ⟨x0, x1, x2, xf⟩ := LS.three
          obtain ⟨y0, y1, y2, yf⟩ := L4.three
          go_wp2_with (at_builtin; refine wpList_append_row (E := eInt) (A := A1) (c := c1) (g := g1) (l := s.bad) rfl _ _ rfl el_int rfl ?_ _ _ [(0 : Int), 0] rfl ?_ (by simp only [maxLen, List.length_cons, List.length_nil]; omega) (by simp only [List.length_cons, List.length_nil]; omega) ?_; (focus (exact (by repeat (first | with_reducible exact HROW5.out | with_reducible refine Row.drew ?_ | with_reducible refine Row.drewN ?_ _ | with_reducible refine Row.alloc ?_ _ | (with_reducible refine Row.below ?_ (by assumption)) | ((with_reducible refine Row.other ?_ ?_ _); rotate_left; (focus (first | omega | (simp; omega) | (simp; done)))) | ((with_reducible refine Row.far' (by assumption) ?_ ?_); (focus (first | omega | (simp; omega) | (simp; done)))))))); (focus (exact (by repeat (first | ((with_reducible refine Rd.lit ?_ ?_); (focus (first | with_reducible rfl | omega | (simp; omega) | (simp; done))); (focus (first | rfl | (simp; rfl) | (simp; done)))) | with_reducible refine Rd.drew ?_ | with_reducible refine Rd.drewN ?_ _ | with_reducible refine Rd.alloc ?_ _ | (with_reducible refine Rd.below ?_ (by assumption)))))); intro A6 c6 g6 w6 l6 hl6 hle1 hle2 hrow6 hg6 hgg6; have LS6 := Loc.carry LS (fun h => by ((repeat (first | with_reducible exact h | with_reducible refine Loc.drew ?_ | with_reducible refine Loc.drewN ?_ _ | with_reducible refine Loc.alloc ?_ _)); done)) hg6 (by omega); have L46 := Loc.carry L4 (fun h => by ((repeat (first | with_reducible exact h | with_reducible refine Loc.drew ?_ | with_reducible refine Loc.drewN ?_ _ | with_reducible refine Loc.alloc ?_ _)); done)) hg6 (by omega); obtain ⟨z0, z1, z2, zf⟩ := LS6.three; obtain ⟨v0, v1, v2, vf⟩ := L46.three; have zz := LS6.lt)
          simp only [List.length_cons, List.length_nil] at hle1 hle2
          have hz6 := hg6.size
          simp at hz6 hgg6
          have hR6 : Rdr w6 54 B R (q + 1 + 1) := Rdr.grown (by ((repeat (first | with_reducible assumption | with_reducible refine Rdr.drew ?_ | with_reducible refine Rdr.drewN ?_ _ | with_reducible refine Rdr.alloc ?_ _ | with_reducible refine Rdr.other ?_ _ _ ?_ ?_ | omega)); done)) hg6 (by omega) (by omega)
          refine bodyPost_ret (v := .agg #[.int .i64 s.sec, .int .i64 s.cnt, .slice A6 (l6).length c6]) (by simp [results, Try.results34, go_sem, *]; done) rfl ?_
          exact ⟨⟨s.sec, s.cnt, l6⟩, A6, c6, g6, q + 1 + 1, rfl, by omega, by omega, (by repeat (first | with_reducible exact hrow6 | with_reducible refine Row.drew ?_ | with_reducible refine Row.drewN ?_ _ | with_reducible refine Row.alloc ?_ _ | (with_reducible refine Row.below ?_ (by assumption)) | ((with_reducible refine Row.other ?_ ?_ _); rotate_left; (focus (first | omega | (simp; omega) | (simp; done)))) | ((with_reducible refine Row.far' (by assumption) ?_ ?_); (focus (first | omega | (simp; omega) | (simp; done)))))), (by first | omega | (focus (simp; omega)) | (focus (simp; done))), (by first | omega | (focus (simp; omega)) | (focus (simp; done))), (by first | omega | (focus (simp; omega)) | (focus (simp; done))), (by first | omega | (focus (simp; omega)) | (focus (simp; done))), (by first | omega | (focus (simp; omega)) | (focus (simp; done))), (by ((repeat (first | with_reducible assumption | with_reducible refine Rdr.drew ?_ | with_reducible refine Rdr.drewN ?_ _ | with_reducible refine Rdr.alloc ?_ _ | with_reducible refine Rdr.other ?_ _ _ ?_ ?_ | omega)); done)), by omega, by omega, (by repeat (first | with_reducible exact HGW5.out | with_reducible refine grownBy_drew ?_ | with_reducible refine grownBy_drewN ?_ _ | with_reducible refine grownBy_alloc ?_ _ | (with_reducible refine grownBy_below ?_ (by assumption)) | ((with_reducible refine grownBy_set ?_ ?_ _ _); rotate_left; (focus (first | omega | (simp; omega) | (simp; done)))) | ((with_reducible refine grownBy_trans ?_ (by assumption)); done) | ((with_reducible refine grownBy_new (by assumption) ?_ ?_); (focus (first | omega | (simp; omega) | (simp; done))))))⟩
def FreshSpares (w : World) (e : Ending) (w' : World) : Prop :=
  ∃ (s : Sp) (A : Option Addr) (c g : Nat), e = .returned (.agg #[.int .i64 s.sec, .int .i64 s.cnt, .slice A s.bad.length c]) ∧ w.heap.size ≤ g ∧ Row eInt w' g 3 A c s.bad ∧ 0 ≤ s.sec ∧ s.sec ≤ 100001 ∧ -1 ≤ s.cnt ∧ s.cnt ≤ 17 ∧ s.bad.length ≤ 10 ∧ Below w.heap.size w w'
def FreshSparesN (w : World) (e : Ending) (w' : World) : Prop :=
  ∃ (s : Sp) (A : Option Addr) (c g : Nat) (n : Int), e = .returned (.tuple #[.agg #[.int .i64 s.sec, .int .i64 s.cnt, .slice A s.bad.length c], .int .i64 n]) ∧ w.heap.size ≤ g ∧ Row eInt w' g 3 A c s.bad ∧ 0 ≤ s.sec ∧ s.sec ≤ 100001 ∧ -1 ≤ s.cnt ∧ s.cnt ≤ 17 ∧ s.bad.length ≤ 10 ∧ -1 ≤ n ∧ n ≤ 10 ∧ Below w.heap.size w w'
set_option maxHeartbeats 1000000 in
theorem drawSv_any (A : Option Addr) (c : Nat) (l : List Int) (w : World) (hl : l.length ≤ c) (hm : c ≤ maxLen) (hr : Rd eByte w A l) (hb : ∀ x ∈ l, 0 ≤ x ∧ x ≤ 255) :
    Calls Try.prog 17 #[.slice A l.length c] w (FreshSpares w) := by
  have HB := Lib.hid hb
  have L0 := Loc.new w [.int .i64 0, .int .i64 0, .slice none 0 0] 27
  have hr1 := Lib.hid (Rd.alloc hr (.cells #[.int .i64 0, .int .i64 0, .slice none 0 0] 27))
  clear hb
  have hA : Hid (∀ b off, 0 < l.length → A = some ⟨b, off, none⟩ → b < w.heap.size) := Lib.hid fun _ _ h0 hA => hr.lt h0 hA
  go_enter Try.func17, Try.ntmps17
  go_wp2_with fail
  refine (l20Open_any A c l _ hl hm hr1.out HB.out w.heap.size hA.out (by simp)).mono ?_
  rintro e w1 ⟨R, rfl, hR1, hge, hb1⟩
  have L1 := Loc.carryB L0 (fun h => by ((repeat (first | with_reducible exact h | with_reducible refine Loc.drew ?_ | with_reducible refine Loc.drewN ?_ _ | with_reducible refine Loc.alloc ?_ _)); done)) hb1
  have HB1 : Hid (Below w.heap.size w w1) := Lib.hid (Below.next (W := w) (by repeat (first | with_reducible exact Below.refl _ _ | with_reducible refine below_drewN ?_ _ | with_reducible refine Below.drew ?_ | with_reducible refine Below.alloc ?_ ?_ _ | with_reducible refine Below.setCell ?_ ?_ _ | omega | (focus (simp; omega)) | (focus (simp; done)))) hb1)
  have hz1 := hb1.size
  simp at hge hz1
  clear hb1
  go_wp2_with fail
  refine (l20Spares_any w.heap.size R 0 2 _ hR1 (by omega) (by omega) (by omega) (by omega)).mono ?_
  rintro e w2 ⟨s, A2, c2, g2, p2, rfl, hg2, hg2R, row2, s0, s1, s2, s3, s4, hR2, -, -, hgw⟩
  have L2 := Loc.carry L1 (fun h => by ((repeat (first | with_reducible exact h | with_reducible refine Loc.drew ?_ | with_reducible refine Loc.drewN ?_ _ | with_reducible refine Loc.alloc ?_ _)); done)) hgw (by omega)
  obtain ⟨x0, x1, x2, xf⟩ := L2.three
  have HB2 : Hid (Below w.heap.size w w2) := Lib.hid (below_of_grown HB1.out hgw (by omega) (by omega))
  clear hgw
  go_wp2
  refine bodyPost_ret (v := .agg #[.int .i64 s.sec, .int .i64 s.cnt, .slice A2 s.bad.length c2]) (by simp [results, Try.results17, go_sem, *]; done) rfl ?_
  exact ⟨s, A2, c2, g2, rfl, by omega, (by repeat (first | with_reducible exact row2 | with_reducible refine Row.drew ?_ | with_reducible refine Row.drewN ?_ _ | with_reducible refine Row.alloc ?_ _ | (with_reducible refine Row.below ?_ (by assumption)) | ((with_reducible refine Row.other ?_ ?_ _); rotate_left; (focus (first | omega | (simp; omega) | (simp; done)))) | ((with_reducible refine Row.far' (by assumption) ?_ ?_); (focus (first | omega | (simp; omega) | (simp; done)))))), s0, s1, s2, s3, s4, (by repeat (first | with_reducible exact HB2.out | with_reducible exact Below.refl _ _ | with_reducible refine below_drewN ?_ _ | with_reducible refine Below.drew ?_ | with_reducible refine Below.alloc ?_ ?_ _ | with_reducible refine Below.setCell ?_ ?_ _ | (with_reducible refine Below.next ?_ (by assumption)) | ((with_reducible refine Below.far' (by assumption) ?_ ?_ ?_); (focus (first | omega | (simp; omega) | (simp; done))); (focus (first | omega | (simp; omega) | (simp; done)))) | omega | (focus (simp; omega)) | (focus (simp; done))))⟩
set_option maxHeartbeats 2000000 in
theorem drawSh_any (A : Option Addr) (c : Nat) (l : List Int) (w : World) (hl : l.length ≤ c) (hm : c ≤ maxLen) (hr : Rd eByte w A l) (hb : ∀ x ∈ l, 0 ≤ x ∧ x ≤ 255) :
    Calls Try.prog 19 #[.slice A l.length c] w (FreshSparesN w) := by
  have HB := Lib.hid hb
  have L0 := Loc.new w [.int .i64 0, .int .i64 0, .slice none 0 0] 27
  have hr1 := Lib.hid (Rd.alloc hr (.cells #[.int .i64 0, .int .i64 0, .slice none 0 0] 27))
  clear hb
  have hA : Hid (∀ b off, 0 < l.length → A = some ⟨b, off, none⟩ → b < w.heap.size) := Lib.hid fun _ _ h0 hA => hr.lt h0 hA
  go_enter Try.func19, Try.ntmps19
  go_wp2_with fail
  refine (l20Open_any A c l _ hl hm hr1.out HB.out w.heap.size hA.out (by simp)).mono ?_
  rintro e w1 ⟨R, rfl, hR1, hge, hb1⟩
  have L1 := Loc.carryB L0 (fun h => by ((repeat (first | with_reducible exact h | with_reducible refine Loc.drew ?_ | with_reducible refine Loc.drewN ?_ _ | with_reducible refine Loc.alloc ?_ _)); done)) hb1
  have HB1 : Hid (Below w.heap.size w w1) := Lib.hid (Below.next (W := w) (by repeat (first | with_reducible exact Below.refl _ _ | with_reducible refine below_drewN ?_ _ | with_reducible refine Below.drew ?_ | with_reducible refine Below.alloc ?_ ?_ _ | with_reducible refine Below.setCell ?_ ?_ _ | omega | (focus (simp; omega)) | (focus (simp; done)))) hb1)
  have hz1 := hb1.size
  simp at hge hz1
  clear hb1
  go_wp2_with fail
  refine (l20Spares_any w.heap.size R 0 12 _ hR1 (by omega) (by omega) (by omega) (by omega)).mono ?_
  rintro e w2 ⟨s, A2, c2, g2, q, rfl, hg2, hg2R, row2, s0, s1, s2, s3, s4, hR2, q0, q1, hgw⟩
  have L2 := Loc.carry L1 (fun h => by ((repeat (first | with_reducible exact h | with_reducible refine Loc.drew ?_ | with_reducible refine Loc.drewN ?_ _ | with_reducible refine Loc.alloc ?_ _)); done)) hgw (by omega)
  have LS := Loc.newAt w2 [.int .i64 s.sec, .int .i64 s.cnt, .slice A2 s.bad.length c2] 27 (b := w2.heap.size) rfl
  have HB2 : Hid (Below w.heap.size w w2) := Lib.hid (below_of_grown HB1.out hgw (by omega) (by omega))
  have HROW2 := Lib.hid row2
  have hz2 := hgw.size
  have hRl := hR2.lt
  have zL := L2.lt
  obtain ⟨x0, x1, x2, xf⟩ := L2.three
  clear hgw row2
  go_wp2_with fail
  go_region_with (go_at_call 37; (with_reducible refine (pick_any w.heap.size R q 11 _ (by ((repeat (first | with_reducible assumption | with_reducible refine Rdr.drew ?_ | with_reducible refine Rdr.drewN ?_ _ | with_reducible refine Rdr.alloc ?_ _ | with_reducible refine Rdr.other ?_ _ _ ?_ ?_ | omega)); done)) (by omega) (by omega) (by omega)).mono ?_); rintro e w4 ⟨r4, rfl, a4, b4, hR4, hg4⟩; have b4' := b4 (by omega); clear b4; have hw1 : IntKind.i64.wrap (r4 - 1) = r4 - 1 := (IntWalk.i64_in _ (by omega)); have LS4 := Loc.carry LS (fun h => by ((repeat (first | with_reducible exact h | with_reducible refine Loc.drew ?_ | with_reducible refine Loc.drewN ?_ _ | with_reducible refine Loc.alloc ?_ _)); done)) hg4 (by omega); have L24 := Loc.carry L2 (fun h => by ((repeat (first | with_reducible exact h | with_reducible refine Loc.drew ?_ | with_reducible refine Loc.drewN ?_ _ | with_reducible refine Loc.alloc ?_ _)); done)) hg4 (by omega); have HROW4 := Lib.hid (Row.far' hg4 hg2R (Row.drew (Row.alloc HROW2.out (.cells #[.int .i64 s.sec, .int .i64 s.cnt, .slice A2 s.bad.length c2] 27)))); have HB4 : Hid (Below w.heap.size w w4) := Lib.hid (below_of_grown (by repeat (first | with_reducible exact HB2.out | with_reducible exact Below.refl _ _ | with_reducible refine below_drewN ?_ _ | with_reducible refine Below.drew ?_ | with_reducible refine Below.alloc ?_ ?_ _ | with_reducible refine Below.setCell ?_ ?_ _ | (with_reducible refine Below.next ?_ (by assumption)) | ((with_reducible refine Below.far' (by assumption) ?_ ?_ ?_); (focus (first | omega | (simp; omega) | (simp; done))); (focus (first | omega | (simp; omega) | (simp; done)))) | omega | (focus (simp; omega)) | (focus (simp; done)))) hg4 (by simp; omega) (by omega)); obtain ⟨y0, y1, y2, yf⟩ := LS4.three; obtain ⟨z0, z1, z2, zf⟩ := L24.three; have hz4 := hg4.size; (try simp at hz4); have zS4 := LS4.lt; clear hg4)
  all_goals
    go_wp2
    refine bodyPost_ret (v := .tuple #[.agg #[.int .i64 s.sec, .int .i64 s.cnt, .slice A2 s.bad.length c2], .int .i64 (r4 - 1)]) (by simp [results, Try.results19, go_sem, *]; done) rfl ?_
    exact ⟨s, A2, c2, g2, _, rfl, by omega, (by repeat (first | with_reducible exact HROW4.out | with_reducible refine Row.drew ?_ | with_reducible refine Row.drewN ?_ _ | with_reducible refine Row.alloc ?_ _ | (with_reducible refine Row.below ?_ (by assumption)) | ((with_reducible refine Row.other ?_ ?_ _); rotate_left; (focus (first | omega | (simp; omega) | (simp; done)))) | ((with_reducible refine Row.far' (by assumption) ?_ ?_); (focus (first | omega | (simp; omega) | (simp; done)))))), s0, s1, s2, s3, s4, by omega, by omega, (by repeat (first | with_reducible exact HB4.out | with_reducible exact Below.refl _ _ | with_reducible refine below_drewN ?_ _ | with_reducible refine Below.drew ?_ | with_reducible refine Below.alloc ?_ ?_ _ | with_reducible refine Below.setCell ?_ ?_ _ | (with_reducible refine Below.next ?_ (by assumption)) | ((with_reducible refine Below.far' (by assumption) ?_ ?_ ?_); (focus (first | omega | (simp; omega) | (simp; done))); (focus (first | omega | (simp; omega) | (simp; done)))) | omega | (focus (simp; omega)) | (focus (simp; done))))⟩
set_option maxHeartbeats 1000000 in
theorem drawSm_any (A : Option Addr) (c : Nat) (l : List Int) (w : World) (hl : l.length ≤ c) (hm : c ≤ maxLen) (hr : Rd eByte w A l) (hb : ∀ x ∈ l, 0 ≤ x ∧ x ≤ 255) :
    Calls Try.prog 24 #[.slice A l.length c] w (FreshSparesN w) := by
  have HB := Lib.hid hb
  have L0 := Loc.new w [.int .i64 0, .int .i64 0, .slice none 0 0] 27
  have hr1 := Lib.hid (Rd.alloc hr (.cells #[.int .i64 0, .int .i64 0, .slice none 0 0] 27))
  clear hb
  go_enter Try.func24, Try.ntmps24
  go_wp2_with fail
  refine (drawSh_any A c l _ hl hm hr1.out HB.out).mono ?_
  rintro e w1 ⟨s, A2, c2, g2, n, rfl, hg2, row2, s0, s1, s2, s3, s4, n0, n1, hb1⟩
  have L1 := Loc.carryB L0 (fun h => by ((repeat (first | with_reducible exact h | with_reducible refine Loc.drew ?_ | with_reducible refine Loc.drewN ?_ _ | with_reducible refine Loc.alloc ?_ _)); done)) hb1
  obtain ⟨x0, x1, x2, xf⟩ := L1.three
  simp at hg2
  go_wp2
  refine bodyPost_ret (v := .tuple #[.agg #[.int .i64 s.sec, .int .i64 s.cnt, .slice A2 s.bad.length c2], .int .i64 n]) (by simp [results, Try.results24, go_sem, *]; done) rfl ?_
  exact ⟨s, A2, c2, g2, n, rfl, by omega, (by repeat (first | with_reducible exact row2 | with_reducible refine Row.drew ?_ | with_reducible refine Row.drewN ?_ _ | with_reducible refine Row.alloc ?_ _ | (with_reducible refine Row.below ?_ (by assumption)) | ((with_reducible refine Row.other ?_ ?_ _); rotate_left; (focus (first | omega | (simp; omega) | (simp; done)))) | ((with_reducible refine Row.far' (by assumption) ?_ ?_); (focus (first | omega | (simp; omega) | (simp; done)))))), s0, s1, s2, s3, s4, n0, n1, (by repeat (first | with_reducible exact Below.refl _ _ | with_reducible assumption | with_reducible refine below_drewN ?_ _ | with_reducible refine Below.drew ?_ | with_reducible refine Below.alloc ?_ ?_ _ | with_reducible refine Below.setCell ?_ ?_ _ | (with_reducible refine Below.next ?_ (by assumption)) | omega | (focus (simp; omega)) | (focus (simp; done))))⟩
end Go.Proofs.Ytekpahddcnbnfaa
