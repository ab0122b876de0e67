/-
  What the draws for the stacks' laws give. Conditions: the count of draws stays below 10^9.
-/
import Derived.Test.YtlhbjfjphckifaaBase
import Derived.Test.YtlhbjfjphckifaaNum
import Derived.Test.YtlhbjfjphckifaaInts
import Derived.Test.YtlhbjfjphckifaaApp
import Derived.Test.YtlhbjfjphckifaaIntsW
import Derived.Test.YtlhbjfjphckifaaLib
import Derived.Test.YtlhbjfjphckifaaSpares
import Derived.Test.YtlhbjfjphckifaaOwn
import Derived.Test.YtlhbjfjphckifaaPart
import Derived.Test.YtlhbjfjphckifaaLine
import Derived.Test.YtlhbjfjphckifaaStack
import Derived.Test.YtlhbjfjphckifaaStackM
import Derived.Test.YtlhbjfjphckifaaStackC
import Derived.Test.YtlhbjfjphckifaaStackF
import Derived.Test.YtlhbjfjphckifaaStackS
import Derived.Test.YtlhbjfjphckifaaStackU
import Derived.Test.YtlhbjfjphckifaaDraw
import Derived.Test.YtlhbjfjphckifaaDrawK
import Derived.Test.YtlhbjfjphckifaaDrawD
import Derived.Test.YtlhbjfjphckifaaDrawSt
import Derived.Test.YtlhbjfjphckifaaDrawStk
import Derived.IntWalk
namespace Go.Proofs.Ytlhbjfjphckifaa
open Go.RowKit
/-- A drawn partition's number, and a sector's. -/
def DrawnSpot (w : World) (B R : Nat) (p : Int) (e : Ending) (w' : World) : Prop :=
  ∃ n a p' : Int, e = .returned (.tuple #[.int .i64 n, .int .i64 a]) ∧ -1 ≤ n ∧ n ≤ 100 ∧ -1 ≤ a ∧ a ≤ 100 ∧ Rdr w' 115 B R p' ∧ p ≤ p' ∧ p' ≤ p + 10 ∧ w.grownBy w' (some R)
theorem StackRd.prow {w : World} {A0 A1 A2 : Option Addr} {n0 n1 n2 c0 c1 c2 : Nat} {m : Value} {t : Stk} (h : StackRd w [.slice A0 n0 c0, .slice A1 n1 c1, .slice A2 n2 c2, m] t) : Rd encPartS w A1 t.prt ∧ n1 = t.prt.length := by
  obtain ⟨u, v, y, h1, h2, ⟨A', c', rfl, hr, _⟩, h4⟩ := h
  simp only [List.cons.injEq, and_true, Value.slice.injEq] at h1
  obtain ⟨-, ⟨rfl, rfl, rfl⟩, -, -⟩ := h1
  exact ⟨hr, rfl⟩
theorem StackOwn.grown1 {B C R : Nat} {w w' : World} {xs : List Value} {t : Stk} (h : StackOwn B w C xs t) (hg : w.grownBy w' (some R)) (hR : R < B) : StackOwn B w' C xs t := h.gin (GIn.of_grown hg (Nat.le_refl R) (Nat.lt_succ_self R)) (.inr hR)
set_option maxHeartbeats 4000000 in
theorem l20Spot_any (B R Bo Co : Nat) (p : Int) (x0 x1 x2 x3 : Value) (t : Stk) (w : World) (h : Rdr w 115 B R p) (hp0 : 0 ≤ p) (hp1 : p ≤ 200000000) (hown : StackOwn Bo w Co [x0, x1, x2, x3] t) (hRo : R < Bo) (hs : sizeStack t ≤ 60) (hc : ∀ y ∈ t.prt, y.cnt ≤ 5) :
    Calls Try.prog 86 #[.pointer (some ⟨R, 0, none⟩), .agg #[x0, x1, x2, x3]] w (DrawnSpot w B R p) := by
  obtain ⟨A0, c0, A1, c1, A2, c2, e0, e1, e2, e3⟩ := id hown.rd.mst
  subst e0 e1 e2 e3
  have hBR := h.ge
  have hRl := h.lt
  have hs' := hs
  unfold sizeStack at hs'
  have L3 := Loc.new w [.slice A0 t.dsk.length c0, .slice A1 t.prt.length c1, .slice A2 t.lns.length c2, .int .i64 t.mst] 35
  have HO := Lib.hid (hown.below ((Below.refl w.heap.size w).alloc (Nat.le_refl _) (.cells #[.slice A0 t.dsk.length c0, .slice A1 t.prt.length c1, .slice A2 t.lns.length c2, .int .i64 t.mst] 35)))
  have HC := Lib.hid hc
  have HG := Lib.hid (grownBy_alloc (grownBy_refl w (some R)) (.cells #[.slice A0 t.dsk.length c0, .slice A1 t.prt.length c1, .slice A2 t.lns.length c2, .int .i64 t.mst] 35))
  have hwl := IntWalk.i64_in ((t.prt.length : Int) + 1) (by omega)
  have ne0 : w.heap.size ≠ R := by omega
  have k0 := L3.four
  obtain ⟨k0, k1, k2, k3, kf⟩ := k0
  clear hown hc
  go_enter Try.func86, Try.ntmps86
  go_wp2_with fail
  refine (pick_any B R (p) ((t.prt.length : Int) + 1) _ (by ((repeat (first | with_reducible assumption | with_reducible refine Rdr.drew ?_ | with_reducible refine Rdr.drewN ?_ _ | with_reducible refine Rdr.alloc ?_ _ | with_reducible refine Rdr.other ?_ _ _ ?_ ?_ | omega)); done)) (by omega) (by omega) (by omega)).mono ?_
  rintro e w1 ⟨r1, rfl, a1, b1, hR1, hg1⟩
  have b1' := b1 (by omega)
  clear b1
  replace hR1 := hR1.to (p' := p + 1) (by omega)
  have hz1 := hg1.size
  (try simp at hz1)
  have hlt1 := hR1.lt
  have ne1 : w1.heap.size ≠ R := by omega
  replace L3 := Loc.carry L3 (fun h => by ((repeat (first | with_reducible exact h | with_reducible refine Loc.drew ?_ | with_reducible refine Loc.drewN ?_ _ | with_reducible refine Loc.alloc ?_ _)); done)) hg1 (by omega)
  replace HG := Lib.hid (grownBy_trans HG.out hg1)
  replace HO := Lib.hid (StackOwn.grown1 HO.out hg1 hRo)
  clear hg1
  clear k0 k1 k2 k3 kf
  go_wp2_with fail
  refine (pick_any B R (p + 1) (16) _ (by ((repeat (first | with_reducible assumption | with_reducible refine Rdr.drew ?_ | with_reducible refine Rdr.drewN ?_ _ | with_reducible refine Rdr.alloc ?_ _ | with_reducible refine Rdr.other ?_ _ _ ?_ ?_ | omega)); done)) (by omega) (by omega) (by omega)).mono ?_
  rintro e w2 ⟨r2, rfl, a2, b2, hR2, hg2⟩
  have b2' := b2 (by omega)
  clear b2
  replace hR2 := hR2.to (p' := p + 1 + 1) (by omega)
  have hz2 := hg2.size
  (try simp at hz2)
  have hlt2 := hR2.lt
  have ne2 : w2.heap.size ≠ R := by omega
  replace L3 := Loc.carry L3 (fun h => by ((repeat (first | with_reducible exact h | with_reducible refine Loc.drew ?_ | with_reducible refine Loc.drewN ?_ _ | with_reducible refine Loc.alloc ?_ _)); done)) hg2 (by omega)
  replace HG := Lib.hid (grownBy_trans HG.out hg2)
  replace HO := Lib.hid (StackOwn.grown1 HO.out hg2 hRo)
  clear hg2
  obtain ⟨d2, e2, d20, d21⟩ : ∃ d2, r2 / 15 = d2 ∧ 0 ≤ d2 ∧ d2 ≤ 1 := ⟨_, rfl, by omega, by omega⟩
  have t2 : r2.tdiv 15 = d2 := by rw [Int.tdiv_eq_ediv_of_nonneg a2, e2]
  have hw2 : IntKind.i64.wrap d2 = d2 := IntWalk.i64_in _ (by omega)
  obtain ⟨n, hn⟩ : ∃ n, n = r1 - d2 := ⟨_, rfl⟩
  have hw21 : IntKind.i64.wrap (r1 - d2) = n := by rw [hn]; exact IntWalk.i64_in _ (by omega)
  have hnb0 : -1 ≤ n := by omega
  have hnb1 : n ≤ 61 := by omega
  clear hn
  go_wp2_with fail
  refine (pick_any B R (p + 1 + 1) (6) _ (by ((repeat (first | with_reducible assumption | with_reducible refine Rdr.drew ?_ | with_reducible refine Rdr.drewN ?_ _ | with_reducible refine Rdr.alloc ?_ _ | with_reducible refine Rdr.other ?_ _ _ ?_ ?_ | omega)); done)) (by omega) (by omega) (by omega)).mono ?_
  rintro e w3 ⟨r3, rfl, a3, b3, hR3, hg3⟩
  have b3' := b3 (by omega)
  clear b3
  replace hR3 := hR3.to (p' := p + 1 + 1 + 1) (by omega)
  have hz3 := hg3.size
  (try simp at hz3)
  have hlt3 := hR3.lt
  have ne3 : w3.heap.size ≠ R := by omega
  replace L3 := Loc.carry L3 (fun h => by ((repeat (first | with_reducible exact h | with_reducible refine Loc.drew ?_ | with_reducible refine Loc.drewN ?_ _ | with_reducible refine Loc.alloc ?_ _)); done)) hg3 (by omega)
  replace HG := Lib.hid (grownBy_trans HG.out hg3)
  replace HO := Lib.hid (StackOwn.grown1 HO.out hg3 hRo)
  clear hg3
  go_wp2_with fail
  refine (pick_any B R (p + 1 + 1 + 1) (16) _ (by ((repeat (first | with_reducible assumption | with_reducible refine Rdr.drew ?_ | with_reducible refine Rdr.drewN ?_ _ | with_reducible refine Rdr.alloc ?_ _ | with_reducible refine Rdr.other ?_ _ _ ?_ ?_ | omega)); done)) (by omega) (by omega) (by omega)).mono ?_
  rintro e w4 ⟨r4, rfl, a4, b4, hR4, hg4⟩
  have b4' := b4 (by omega)
  clear b4
  replace hR4 := hR4.to (p' := p + 1 + 1 + 1 + 1) (by omega)
  have hz4 := hg4.size
  (try simp at hz4)
  have hlt4 := hR4.lt
  have ne4 : w4.heap.size ≠ R := by omega
  replace L3 := Loc.carry L3 (fun h => by ((repeat (first | with_reducible exact h | with_reducible refine Loc.drew ?_ | with_reducible refine Loc.drewN ?_ _ | with_reducible refine Loc.alloc ?_ _)); done)) hg4 (by omega)
  replace HG := Lib.hid (grownBy_trans HG.out hg4)
  replace HO := Lib.hid (StackOwn.grown1 HO.out hg4 hRo)
  clear hg4
  obtain ⟨d4, e4, d40, d41⟩ : ∃ d4, r4 / 15 = d4 ∧ 0 ≤ d4 ∧ d4 ≤ 1 := ⟨_, rfl, by omega, by omega⟩
  have t4 : r4.tdiv 15 = d4 := by rw [Int.tdiv_eq_ediv_of_nonneg a4, e4]
  have hw4 : IntKind.i64.wrap d4 = d4 := IntWalk.i64_in _ (by omega)
  have hw41 : IntKind.i64.wrap (r3 - d4) = r3 - d4 := IntWalk.i64_in _ (by omega)
  obtain ⟨k0, k1, k2, k3, kf⟩ := L3.four
  have zL := L3.lt
  by_cases hn0 : 0 ≤ n
  · by_cases hnl : n < t.prt.length
    · obtain ⟨k, rfl⟩ := Int.eq_ofNat_of_zero_le hn0
      have hk : k < t.prt.length := by omega
      go_wp2_with fail
      refine (pick_any B R (p + 1 + 1 + 1 + 1) (6) _ (by ((repeat (first | with_reducible assumption | with_reducible refine Rdr.drew ?_ | with_reducible refine Rdr.drewN ?_ _ | with_reducible refine Rdr.alloc ?_ _ | with_reducible refine Rdr.other ?_ _ _ ?_ ?_ | omega)); done)) (by omega) (by omega) (by omega)).mono ?_
      rintro e w5 ⟨r5, rfl, a5, b5, hR5, hg5⟩
      have b5' := b5 (by omega)
      clear b5
      replace hR5 := hR5.to (p' := p + 1 + 1 + 1 + 1 + 1) (by omega)
      have hz5 := hg5.size
      (try simp at hz5)
      have hlt5 := hR5.lt
      have ne5 : w5.heap.size ≠ R := by omega
      replace L3 := Loc.carry L3 (fun h => by ((repeat (first | with_reducible exact h | with_reducible refine Loc.drew ?_ | with_reducible refine Loc.drewN ?_ _ | with_reducible refine Loc.alloc ?_ _)); done)) hg5 (by omega)
      replace HG := Lib.hid (grownBy_trans HG.out hg5)
      replace HO := Lib.hid (StackOwn.grown1 HO.out hg5 hRo)
      clear hg5
      clear k0 k1 k2 k3 kf
      obtain ⟨k0, k1, k2, k3, kf⟩ := L3.four
      by_cases h5 : 0 < r5
      · obtain ⟨b, off, hAd, hbl, hc1, hc2⟩ := HO.out.rd.prow.1.rPartS hk
        subst hAd
        have hcl := HC.out _ (List.getElem_mem hk)
        obtain ⟨y, hy⟩ : ∃ y, y = t.prt[k]'hk := ⟨_, rfl⟩
        rw [← hy] at hc1 hc2 hcl
        clear hy
        obtain ⟨yf, yc⟩ := y
        simp only at hc1 hc2 hcl
        by_cases hy1 : 1 < yc
        · have hmx : max 1 yc = yc := by omega
          go_wp2_with fail
          refine (pick_any B R (p + 1 + 1 + 1 + 1 + 1) (yc) _ (by ((repeat (first | with_reducible assumption | with_reducible refine Rdr.drew ?_ | with_reducible refine Rdr.drewN ?_ _ | with_reducible refine Rdr.alloc ?_ _ | with_reducible refine Rdr.other ?_ _ _ ?_ ?_ | omega)); done)) (by omega) (by omega) (by omega)).mono ?_
          rintro e w6 ⟨r6, rfl, a6, b6, hR6, hg6⟩
          have b6' := b6 (by omega)
          clear b6
          replace hR6 := hR6.to (p' := p + 1 + 1 + 1 + 1 + 1 + 1) (by omega)
          have hz6 := hg6.size
          (try simp at hz6)
          have hlt6 := hR6.lt
          have ne6 : w6.heap.size ≠ R := by omega
          replace L3 := Loc.carry L3 (fun h => by ((repeat (first | with_reducible exact h | with_reducible refine Loc.drew ?_ | with_reducible refine Loc.drewN ?_ _ | with_reducible refine Loc.alloc ?_ _)); done)) hg6 (by omega)
          replace HG := Lib.hid (grownBy_trans HG.out hg6)
          replace HO := Lib.hid (StackOwn.grown1 HO.out hg6 hRo)
          clear hg6
          go_wp2
          refine bodyPost_ret (v := .tuple #[.int .i64 ↑k, .int .i64 r6]) (by simp [results, Try.results86, go_sem]; done) rfl ?_
          exact ⟨↑k, r6, p + 1 + 1 + 1 + 1 + 1 + 1, rfl, by omega, by omega, by omega, by omega, (by ((repeat (first | with_reducible assumption | with_reducible refine Rdr.drew ?_ | with_reducible refine Rdr.drewN ?_ _ | with_reducible refine Rdr.alloc ?_ _ | with_reducible refine Rdr.other ?_ _ _ ?_ ?_ | omega)); done)), by omega, by omega, HG.out⟩
        · have hmx : max 1 yc = 1 := by omega
          go_wp2_with fail
          refine (pick_any B R (p + 1 + 1 + 1 + 1 + 1) (1) _ (by ((repeat (first | with_reducible assumption | with_reducible refine Rdr.drew ?_ | with_reducible refine Rdr.drewN ?_ _ | with_reducible refine Rdr.alloc ?_ _ | with_reducible refine Rdr.other ?_ _ _ ?_ ?_ | omega)); done)) (by omega) (by omega) (by omega)).mono ?_
          rintro e w6 ⟨r6, rfl, a6, b6, hR6, hg6⟩
          have b6' := b6 (by omega)
          clear b6
          replace hR6 := hR6.to (p' := p + 1 + 1 + 1 + 1 + 1 + 1) (by omega)
          have hz6 := hg6.size
          (try simp at hz6)
          have hlt6 := hR6.lt
          have ne6 : w6.heap.size ≠ R := by omega
          replace L3 := Loc.carry L3 (fun h => by ((repeat (first | with_reducible exact h | with_reducible refine Loc.drew ?_ | with_reducible refine Loc.drewN ?_ _ | with_reducible refine Loc.alloc ?_ _)); done)) hg6 (by omega)
          replace HG := Lib.hid (grownBy_trans HG.out hg6)
          replace HO := Lib.hid (StackOwn.grown1 HO.out hg6 hRo)
          clear hg6
          go_wp2
          refine bodyPost_ret (v := .tuple #[.int .i64 ↑k, .int .i64 r6]) (by simp [results, Try.results86, go_sem]; done) rfl ?_
          exact ⟨↑k, r6, p + 1 + 1 + 1 + 1 + 1 + 1, rfl, by omega, by omega, by omega, by omega, (by ((repeat (first | with_reducible assumption | with_reducible refine Rdr.drew ?_ | with_reducible refine Rdr.drewN ?_ _ | with_reducible refine Rdr.alloc ?_ _ | with_reducible refine Rdr.other ?_ _ _ ?_ ?_ | omega)); done)), by omega, by omega, HG.out⟩
      · go_wp2
        refine bodyPost_ret (v := .tuple #[.int .i64 ↑k, .int .i64 (r3 - d4)]) (by simp [results, Try.results86, go_sem]; done) rfl ?_
        exact ⟨↑k, (r3 - d4), p + 1 + 1 + 1 + 1 + 1, rfl, by omega, by omega, by omega, by omega, (by ((repeat (first | with_reducible assumption | with_reducible refine Rdr.drew ?_ | with_reducible refine Rdr.drewN ?_ _ | with_reducible refine Rdr.alloc ?_ _ | with_reducible refine Rdr.other ?_ _ _ ?_ ?_ | omega)); done)), by omega, by omega, HG.out⟩
    · go_wp2
      refine bodyPost_ret (v := .tuple #[.int .i64 n, .int .i64 (r3 - d4)]) (by simp [results, Try.results86, go_sem]; done) rfl ?_
      exact ⟨n, (r3 - d4), p + 1 + 1 + 1 + 1, rfl, by omega, by omega, by omega, by omega, (by ((repeat (first | with_reducible assumption | with_reducible refine Rdr.drew ?_ | with_reducible refine Rdr.drewN ?_ _ | with_reducible refine Rdr.alloc ?_ _ | with_reducible refine Rdr.other ?_ _ _ ?_ ?_ | omega)); done)), by omega, by omega, HG.out⟩
  · go_wp2
    refine bodyPost_ret (v := .tuple #[.int .i64 n, .int .i64 (r3 - d4)]) (by simp [results, Try.results86, go_sem]; done) rfl ?_
    exact ⟨n, (r3 - d4), p + 1 + 1 + 1 + 1, rfl, by omega, by omega, by omega, by omega, (by ((repeat (first | with_reducible assumption | with_reducible refine Rdr.drew ?_ | with_reducible refine Rdr.drewN ?_ _ | with_reducible refine Rdr.alloc ?_ _ | with_reducible refine Rdr.other ?_ _ _ ?_ ?_ | omega)); done)), by omega, by omega, HG.out⟩
/-- A drawn stack; with numbers. -/
def StackOf (w w' : World) (y0 y1 y2 y3 : Value) (t : Stk) : Prop := StackOwn w.heap.size w' w'.heap.size [y0, y1, y2, y3] t ∧ sizeStack t ≤ 60 ∧ (∀ y ∈ t.prt, y.cnt ≤ 5) ∧ Below w.heap.size w w'
def FreshStack (w : World) (e : Ending) (w' : World) : Prop := ∃ y0 y1 y2 y3 t, e = .returned (.agg #[y0, y1, y2, y3]) ∧ StackOf w w' y0 y1 y2 y3 t
def FreshStackN (w : World) (e : Ending) (w' : World) : Prop := ∃ y0 y1 y2 y3 t, ∃ n : Int, e = .returned (.tuple #[.agg #[y0, y1, y2, y3], .int .i64 n]) ∧ (-1 ≤ n ∧ n ≤ 100) ∧ StackOf w w' y0 y1 y2 y3 t
def FreshStackNA (w : World) (e : Ending) (w' : World) : Prop := ∃ y0 y1 y2 y3 t, ∃ n a : Int, e = .returned (.tuple #[.agg #[y0, y1, y2, y3], .int .i64 n, .int .i64 a]) ∧ (-1 ≤ n ∧ n ≤ 100) ∧ (-1 ≤ a ∧ a ≤ 100) ∧ StackOf w w' y0 y1 y2 y3 t
def FreshStackNAV (w : World) (e : Ending) (w' : World) : Prop := ∃ y0 y1 y2 y3 t, ∃ n a v : Int, e = .returned (.tuple #[.agg #[y0, y1, y2, y3], .int .i64 n, .int .i64 a, .int .i64 v]) ∧ (-1 ≤ n ∧ n ≤ 100) ∧ (-1 ≤ a ∧ a ≤ 100) ∧ (-1 ≤ v ∧ v ≤ 300) ∧ StackOf w w' y0 y1 y2 y3 t
theorem StackOwn.drew {B C : Nat} {w : World} {xs : List Value} {t : Stk} (h : StackOwn B w C xs t) : StackOwn B w.drew C xs t := h
theorem StackOwn.drewN {B C : Nat} {w : World} {xs : List Value} {t : Stk} (h : StackOwn B w C xs t) (n : Nat) : StackOwn B (w.drewN n) C xs t := h
theorem StackOwn.alloc {B C : Nat} {w : World} {xs : List Value} {t : Stk} (h : StackOwn B w C xs t) (o : Obj) : StackOwn B (w.alloc o) C xs t := h.below ((Below.refl _ _).alloc (Nat.le_refl _) o)
theorem StackOwn.other {B C : Nat} {w : World} {xs : List Value} {t : Stk} (h : StackOwn B w C xs t) {p : Addr} (hp : p.block < B ∨ C ≤ p.block) (v : Value) : StackOwn B (w.setCell p v) C xs t := by
  obtain ⟨g, o, q⟩ := p
  obtain ⟨u, v', y, h1, h2, h3, h4, h5⟩ := h
  exact ⟨u, v', y, h1, h2.other hp v, h3.other hp v, h4.other hp v, h5⟩
set_option maxHeartbeats 2000000 in
theorem drawStv_any (A : Option Addr) (c : Nat) (l : List Int) (w : World) (hl : l.length ≤ c) (hm : c ≤ maxLen) (hr : Rd eByte w A l) (hb : ∀ x ∈ l, 0 ≤ x ∧ x ≤ 255) :
    Calls Try.prog 28 #[.slice A l.length c] w (FreshStack w) := by
  have HB := Lib.hid hb
  have L0 := Loc.new w [.slice none 0 0, .slice none 0 0, .slice none 0 0, .int .i64 0] 35
  have hr1 := Lib.hid (Rd.alloc hr (.cells #[.slice none 0 0, .slice none 0 0, .slice none 0 0, .int .i64 0] 35))
  clear hb
  have hA : Hid (∀ b off, 0 < l.length → A = some ⟨b, off, none⟩ → b < w.heap.size) := Lib.hid fun _ _ h0 hA => hr.lt h0 hA
  go_enter Try.func28, Try.ntmps28
  go_wp2_with fail
  refine (l20Open_any A c l _ hl hm hr1.out HB.out w.heap.size hA.out (by simp)).mono ?_
  rintro e w1 ⟨R, rfl, hR1, hge, hb1⟩
  replace L0 := Loc.carryB L0 (fun h => by ((repeat (first | with_reducible exact h | with_reducible refine Loc.drew ?_ | with_reducible refine Loc.drewN ?_ _ | with_reducible refine Loc.alloc ?_ _)); done)) hb1
  have HB1 : Hid (Below w.heap.size w w1) := Lib.hid (Below.next (W := w) (by repeat (first | with_reducible exact Below.refl _ _ | with_reducible refine below_drewN ?_ _ | with_reducible refine Below.drew ?_ | with_reducible refine Below.alloc ?_ ?_ _ | with_reducible refine Below.setCell ?_ ?_ _ | omega | (focus (simp; omega)) | (focus (simp; done)))) hb1)
  have hz1 := hb1.size
  simp at hge hz1
  clear hb1
  go_wp2_with fail
  refine (l20Stack_any w.heap.size R 0 2 _ hR1 (by omega) (by omega) (by omega) (by omega)).mono ?_
  rintro e w2 ⟨y0, y1, y2, y3, t, p2, rfl, hown, hsz, hcnt, hR2, hp20, hp21, hgw⟩
  replace L0 := Loc.carry L0 (fun h => by ((repeat (first | with_reducible exact h | with_reducible refine Loc.drew ?_ | with_reducible refine Loc.drewN ?_ _ | with_reducible refine Loc.alloc ?_ _)); done)) hgw (by omega)
  have HB2 : Hid (Below w.heap.size w w2) := Lib.hid (below_of_grown HB1.out hgw (by omega) (by omega))
  have hz2 := hgw.size
  obtain ⟨A0, c0, A1, c1, A2, c2, e0, e1, e2, e3⟩ := id hown.rd.mst
  subst e0 e1 e2 e3
  have HCNT := Lib.hid hcnt
  have hRB : R < w1.heap.size := hR1.lt
  clear hgw hcnt hR1
  have HO := Lib.hid hown
  obtain ⟨k0, k1, k2, k3, kf⟩ := L0.four
  have z0 := L0.lt
  clear hown
  go_wp2
  refine bodyPost_ret (v := .agg #[.slice A0 t.dsk.length c0, .slice A1 t.prt.length c1, .slice A2 t.lns.length c2, .int .i64 t.mst]) (by simp [results, Try.results28, go_sem, *]; done) rfl ?_
  exact ⟨_, _, _, _, t, rfl, StackOwn.mono (B := w1.heap.size) (C := w2.heap.size) (by repeat (first | with_reducible exact HO.out | with_reducible refine StackOwn.drew ?_ | with_reducible refine StackOwn.drewN ?_ _ | with_reducible refine StackOwn.alloc ?_ _ | (with_reducible refine StackOwn.below ?_ (by assumption)) | ((with_reducible refine StackOwn.other ?_ ?_ _); rotate_left; (focus (first | omega | (simp; omega) | (simp; done)))))) (by omega) (by simp), hsz, HCNT.out, (by repeat (first | with_reducible exact HB2.out | with_reducible exact Below.refl _ _ | with_reducible refine below_drewN ?_ _ | with_reducible refine Below.drew ?_ | with_reducible refine Below.alloc ?_ ?_ _ | with_reducible refine Below.setCell ?_ ?_ _ | (with_reducible refine Below.next ?_ (by assumption)) | ((with_reducible refine Below.far' (by assumption) ?_ ?_ ?_); (focus (first | omega | (simp; omega) | (simp; done))); (focus (first | omega | (simp; omega) | (simp; done)))) | omega | (focus (simp; omega)) | (focus (simp; done))))⟩
set_option maxHeartbeats 2000000 in
theorem drawSts_any (A : Option Addr) (c : Nat) (l : List Int) (w : World) (hl : l.length ≤ c) (hm : c ≤ maxLen) (hr : Rd eByte w A l) (hb : ∀ x ∈ l, 0 ≤ x ∧ x ≤ 255) :
    Calls Try.prog 41 #[.slice A l.length c] w (FreshStack w) := by
  have HB := Lib.hid hb
  have L0 := Loc.new w [.slice none 0 0, .slice none 0 0, .slice none 0 0, .int .i64 0] 35
  have hr1 := Lib.hid (Rd.alloc hr (.cells #[.slice none 0 0, .slice none 0 0, .slice none 0 0, .int .i64 0] 35))
  clear hb
  have hA : Hid (∀ b off, 0 < l.length → A = some ⟨b, off, none⟩ → b < w.heap.size) := Lib.hid fun _ _ h0 hA => hr.lt h0 hA
  go_enter Try.func41, Try.ntmps41
  go_wp2_with fail
  refine (l20Open_any A c l _ hl hm hr1.out HB.out w.heap.size hA.out (by simp)).mono ?_
  rintro e w1 ⟨R, rfl, hR1, hge, hb1⟩
  replace L0 := Loc.carryB L0 (fun h => by ((repeat (first | with_reducible exact h | with_reducible refine Loc.drew ?_ | with_reducible refine Loc.drewN ?_ _ | with_reducible refine Loc.alloc ?_ _)); done)) hb1
  have HB1 : Hid (Below w.heap.size w w1) := Lib.hid (Below.next (W := w) (by repeat (first | with_reducible exact Below.refl _ _ | with_reducible refine below_drewN ?_ _ | with_reducible refine Below.drew ?_ | with_reducible refine Below.alloc ?_ ?_ _ | with_reducible refine Below.setCell ?_ ?_ _ | omega | (focus (simp; omega)) | (focus (simp; done)))) hb1)
  have hz1 := hb1.size
  simp at hge hz1
  clear hb1
  go_wp2_with fail
  refine (l20Stack_any w.heap.size R 0 9 _ hR1 (by omega) (by omega) (by omega) (by omega)).mono ?_
  rintro e w2 ⟨y0, y1, y2, y3, t, p2, rfl, hown, hsz, hcnt, hR2, hp20, hp21, hgw⟩
  replace L0 := Loc.carry L0 (fun h => by ((repeat (first | with_reducible exact h | with_reducible refine Loc.drew ?_ | with_reducible refine Loc.drewN ?_ _ | with_reducible refine Loc.alloc ?_ _)); done)) hgw (by omega)
  have HB2 : Hid (Below w.heap.size w w2) := Lib.hid (below_of_grown HB1.out hgw (by omega) (by omega))
  have hz2 := hgw.size
  obtain ⟨A0, c0, A1, c1, A2, c2, e0, e1, e2, e3⟩ := id hown.rd.mst
  subst e0 e1 e2 e3
  have HCNT := Lib.hid hcnt
  have hRB : R < w1.heap.size := hR1.lt
  clear hgw hcnt hR1
  have HO := Lib.hid hown
  obtain ⟨k0, k1, k2, k3, kf⟩ := L0.four
  have z0 := L0.lt
  clear hown
  go_wp2
  refine bodyPost_ret (v := .agg #[.slice A0 t.dsk.length c0, .slice A1 t.prt.length c1, .slice A2 t.lns.length c2, .int .i64 t.mst]) (by simp [results, Try.results41, go_sem, *]; done) rfl ?_
  exact ⟨_, _, _, _, t, rfl, StackOwn.mono (B := w1.heap.size) (C := w2.heap.size) (by repeat (first | with_reducible exact HO.out | with_reducible refine StackOwn.drew ?_ | with_reducible refine StackOwn.drewN ?_ _ | with_reducible refine StackOwn.alloc ?_ _ | (with_reducible refine StackOwn.below ?_ (by assumption)) | ((with_reducible refine StackOwn.other ?_ ?_ _); rotate_left; (focus (first | omega | (simp; omega) | (simp; done)))))) (by omega) (by simp), hsz, HCNT.out, (by repeat (first | with_reducible exact HB2.out | with_reducible exact Below.refl _ _ | with_reducible refine below_drewN ?_ _ | with_reducible refine Below.drew ?_ | with_reducible refine Below.alloc ?_ ?_ _ | with_reducible refine Below.setCell ?_ ?_ _ | (with_reducible refine Below.next ?_ (by assumption)) | ((with_reducible refine Below.far' (by assumption) ?_ ?_ ?_); (focus (first | omega | (simp; omega) | (simp; done))); (focus (first | omega | (simp; omega) | (simp; done)))) | omega | (focus (simp; omega)) | (focus (simp; done))))⟩
set_option maxHeartbeats 2000000 in
theorem drawStc_any (A : Option Addr) (c : Nat) (l : List Int) (w : World) (hl : l.length ≤ c) (hm : c ≤ maxLen) (hr : Rd eByte w A l) (hb : ∀ x ∈ l, 0 ≤ x ∧ x ≤ 255) :
    Calls Try.prog 32 #[.slice A l.length c] w (FreshStack w) := by
  have HB := Lib.hid hb
  have L0 := Loc.new w [.slice none 0 0, .slice none 0 0, .slice none 0 0, .int .i64 0] 35
  have hr1 := Lib.hid (Rd.alloc hr (.cells #[.slice none 0 0, .slice none 0 0, .slice none 0 0, .int .i64 0] 35))
  clear hb
  have hA : Hid (∀ b off, 0 < l.length → A = some ⟨b, off, none⟩ → b < w.heap.size) := Lib.hid fun _ _ h0 hA => hr.lt h0 hA
  go_enter Try.func32, Try.ntmps32
  go_wp2_with fail
  refine (l20Open_any A c l _ hl hm hr1.out HB.out w.heap.size hA.out (by simp)).mono ?_
  rintro e w1 ⟨R, rfl, hR1, hge, hb1⟩
  replace L0 := Loc.carryB L0 (fun h => by ((repeat (first | with_reducible exact h | with_reducible refine Loc.drew ?_ | with_reducible refine Loc.drewN ?_ _ | with_reducible refine Loc.alloc ?_ _)); done)) hb1
  have HB1 : Hid (Below w.heap.size w w1) := Lib.hid (Below.next (W := w) (by repeat (first | with_reducible exact Below.refl _ _ | with_reducible refine below_drewN ?_ _ | with_reducible refine Below.drew ?_ | with_reducible refine Below.alloc ?_ ?_ _ | with_reducible refine Below.setCell ?_ ?_ _ | omega | (focus (simp; omega)) | (focus (simp; done)))) hb1)
  have hz1 := hb1.size
  simp at hge hz1
  clear hb1
  go_wp2_with fail
  refine (l20Stack_any w.heap.size R 0 9 _ hR1 (by omega) (by omega) (by omega) (by omega)).mono ?_
  rintro e w2 ⟨y0, y1, y2, y3, t, p2, rfl, hown, hsz, hcnt, hR2, hp20, hp21, hgw⟩
  replace L0 := Loc.carry L0 (fun h => by ((repeat (first | with_reducible exact h | with_reducible refine Loc.drew ?_ | with_reducible refine Loc.drewN ?_ _ | with_reducible refine Loc.alloc ?_ _)); done)) hgw (by omega)
  have HB2 : Hid (Below w.heap.size w w2) := Lib.hid (below_of_grown HB1.out hgw (by omega) (by omega))
  have hz2 := hgw.size
  obtain ⟨A0, c0, A1, c1, A2, c2, e0, e1, e2, e3⟩ := id hown.rd.mst
  subst e0 e1 e2 e3
  have HCNT := Lib.hid hcnt
  have hRB : R < w1.heap.size := hR1.lt
  clear hgw hcnt hR1
  have HO := Lib.hid hown
  obtain ⟨k0, k1, k2, k3, kf⟩ := L0.four
  have z0 := L0.lt
  clear hown
  go_wp2
  refine bodyPost_ret (v := .agg #[.slice A0 t.dsk.length c0, .slice A1 t.prt.length c1, .slice A2 t.lns.length c2, .int .i64 t.mst]) (by simp [results, Try.results32, go_sem, *]; done) rfl ?_
  exact ⟨_, _, _, _, t, rfl, StackOwn.mono (B := w1.heap.size) (C := w2.heap.size) (by repeat (first | with_reducible exact HO.out | with_reducible refine StackOwn.drew ?_ | with_reducible refine StackOwn.drewN ?_ _ | with_reducible refine StackOwn.alloc ?_ _ | (with_reducible refine StackOwn.below ?_ (by assumption)) | ((with_reducible refine StackOwn.other ?_ ?_ _); rotate_left; (focus (first | omega | (simp; omega) | (simp; done)))))) (by omega) (by simp), hsz, HCNT.out, (by repeat (first | with_reducible exact HB2.out | with_reducible exact Below.refl _ _ | with_reducible refine below_drewN ?_ _ | with_reducible refine Below.drew ?_ | with_reducible refine Below.alloc ?_ ?_ _ | with_reducible refine Below.setCell ?_ ?_ _ | (with_reducible refine Below.next ?_ (by assumption)) | ((with_reducible refine Below.far' (by assumption) ?_ ?_ ?_); (focus (first | omega | (simp; omega) | (simp; done))); (focus (first | omega | (simp; omega) | (simp; done)))) | omega | (focus (simp; omega)) | (focus (simp; done))))⟩
set_option maxHeartbeats 2000000 in
theorem drawStr_any (A : Option Addr) (c : Nat) (l : List Int) (w : World) (hl : l.length ≤ c) (hm : c ≤ maxLen) (hr : Rd eByte w A l) (hb : ∀ x ∈ l, 0 ≤ x ∧ x ≤ 255) :
    Calls Try.prog 47 #[.slice A l.length c] w (FreshStackNA w) := by
  have HB := Lib.hid hb
  have L0 := Loc.new w [.slice none 0 0, .slice none 0 0, .slice none 0 0, .int .i64 0] 35
  have hr1 := Lib.hid (Rd.alloc hr (.cells #[.slice none 0 0, .slice none 0 0, .slice none 0 0, .int .i64 0] 35))
  clear hb
  have hA : Hid (∀ b off, 0 < l.length → A = some ⟨b, off, none⟩ → b < w.heap.size) := Lib.hid fun _ _ h0 hA => hr.lt h0 hA
  go_enter Try.func47, Try.ntmps47
  go_wp2_with fail
  refine (l20Open_any A c l _ hl hm hr1.out HB.out w.heap.size hA.out (by simp)).mono ?_
  rintro e w1 ⟨R, rfl, hR1, hge, hb1⟩
  replace L0 := Loc.carryB L0 (fun h => by ((repeat (first | with_reducible exact h | with_reducible refine Loc.drew ?_ | with_reducible refine Loc.drewN ?_ _ | with_reducible refine Loc.alloc ?_ _)); done)) hb1
  have HB1 : Hid (Below w.heap.size w w1) := Lib.hid (Below.next (W := w) (by repeat (first | with_reducible exact Below.refl _ _ | with_reducible refine below_drewN ?_ _ | with_reducible refine Below.drew ?_ | with_reducible refine Below.alloc ?_ ?_ _ | with_reducible refine Below.setCell ?_ ?_ _ | omega | (focus (simp; omega)) | (focus (simp; done)))) hb1)
  have hz1 := hb1.size
  simp at hge hz1
  clear hb1
  go_wp2_with fail
  refine (l20Stack_any w.heap.size R 0 14 _ hR1 (by omega) (by omega) (by omega) (by omega)).mono ?_
  rintro e w2 ⟨y0, y1, y2, y3, t, p2, rfl, hown, hsz, hcnt, hR2, hp20, hp21, hgw⟩
  replace L0 := Loc.carry L0 (fun h => by ((repeat (first | with_reducible exact h | with_reducible refine Loc.drew ?_ | with_reducible refine Loc.drewN ?_ _ | with_reducible refine Loc.alloc ?_ _)); done)) hgw (by omega)
  have HB2 : Hid (Below w.heap.size w w2) := Lib.hid (below_of_grown HB1.out hgw (by omega) (by omega))
  have hz2 := hgw.size
  obtain ⟨A0, c0, A1, c1, A2, c2, e0, e1, e2, e3⟩ := id hown.rd.mst
  subst e0 e1 e2 e3
  have HCNT := Lib.hid hcnt
  have hRB : R < w1.heap.size := hR1.lt
  clear hgw hcnt hR1
  have LS := Loc.newAt w2 [.slice A0 t.dsk.length c0, .slice A1 t.prt.length c1, .slice A2 t.lns.length c2, .int .i64 t.mst] 35 (b := w2.heap.size) rfl
  have HO := Lib.hid (StackOwn.alloc hown (.cells #[.slice A0 t.dsk.length c0, .slice A1 t.prt.length c1, .slice A2 t.lns.length c2, .int .i64 t.mst] 35))
  have hlt2 := hR2.lt
  clear hown
  go_wp2_with fail
  refine (l20Spot_any w.heap.size R w1.heap.size w2.heap.size p2 _ _ _ _ t _ (by ((repeat (first | with_reducible assumption | with_reducible refine Rdr.drew ?_ | with_reducible refine Rdr.drewN ?_ _ | with_reducible refine Rdr.alloc ?_ _ | with_reducible refine Rdr.other ?_ _ _ ?_ ?_ | omega)); done)) (by omega) (by omega) HO.out hRB hsz HCNT.out).mono ?_
  rintro e w3 ⟨n, a, p3, rfl, n0, n1, a0, a1, hR3, p30, p31, hg3⟩
  replace L0 := Loc.carry L0 (fun h => by ((repeat (first | with_reducible exact h | with_reducible refine Loc.drew ?_ | with_reducible refine Loc.drewN ?_ _ | with_reducible refine Loc.alloc ?_ _)); done)) hg3 (by omega)
  replace LS := Loc.carry LS (fun h => by ((repeat (first | with_reducible exact h | with_reducible refine Loc.drew ?_ | with_reducible refine Loc.drewN ?_ _ | with_reducible refine Loc.alloc ?_ _)); done)) hg3 (by omega)
  replace HO := Lib.hid (StackOwn.grown1 HO.out hg3 hRB)
  replace HB2 : Hid (Below w.heap.size w w3) := Lib.hid (below_of_grown (by repeat (first | with_reducible exact HB2.out | with_reducible exact Below.refl _ _ | with_reducible refine below_drewN ?_ _ | with_reducible refine Below.drew ?_ | with_reducible refine Below.alloc ?_ ?_ _ | with_reducible refine Below.setCell ?_ ?_ _ | (with_reducible refine Below.next ?_ (by assumption)) | ((with_reducible refine Below.far' (by assumption) ?_ ?_ ?_); (focus (first | omega | (simp; omega) | (simp; done))); (focus (first | omega | (simp; omega) | (simp; done)))) | omega | (focus (simp; omega)) | (focus (simp; done)))) hg3 (by simp; omega) (by omega))
  have hz3 := hg3.size
  (try simp at hz3)
  clear hg3
  obtain ⟨k0, k1, k2, k3, kf⟩ := L0.four
  obtain ⟨s0, s1, s2, s3, sf⟩ := LS.four
  have z0 := L0.lt
  have zS := LS.lt
  go_wp2
  refine bodyPost_ret (v := .tuple #[.agg #[.slice A0 t.dsk.length c0, .slice A1 t.prt.length c1, .slice A2 t.lns.length c2, .int .i64 t.mst], .int .i64 n, .int .i64 a]) (by simp [results, Try.results47, go_sem, *]; done) rfl ?_
  exact ⟨_, _, _, _, t, n, a, rfl, ⟨n0, n1⟩, ⟨a0, a1⟩, StackOwn.mono (B := w1.heap.size) (C := w2.heap.size) (by repeat (first | with_reducible exact HO.out | with_reducible refine StackOwn.drew ?_ | with_reducible refine StackOwn.drewN ?_ _ | with_reducible refine StackOwn.alloc ?_ _ | (with_reducible refine StackOwn.below ?_ (by assumption)) | ((with_reducible refine StackOwn.other ?_ ?_ _); rotate_left; (focus (first | omega | (simp; omega) | (simp; done)))))) (by omega) (by simp; omega), hsz, HCNT.out, (by repeat (first | with_reducible exact HB2.out | with_reducible exact Below.refl _ _ | with_reducible refine below_drewN ?_ _ | with_reducible refine Below.drew ?_ | with_reducible refine Below.alloc ?_ ?_ _ | with_reducible refine Below.setCell ?_ ?_ _ | (with_reducible refine Below.next ?_ (by assumption)) | ((with_reducible refine Below.far' (by assumption) ?_ ?_ ?_); (focus (first | omega | (simp; omega) | (simp; done))); (focus (first | omega | (simp; omega) | (simp; done)))) | omega | (focus (simp; omega)) | (focus (simp; done))))⟩
set_option maxHeartbeats 2000000 in
theorem drawStp_any (A : Option Addr) (c : Nat) (l : List Int) (w : World) (hl : l.length ≤ c) (hm : c ≤ maxLen) (hr : Rd eByte w A l) (hb : ∀ x ∈ l, 0 ≤ x ∧ x ≤ 255) :
    Calls Try.prog 39 #[.slice A l.length c] w (FreshStackN w) := by
  have HB := Lib.hid hb
  have L0 := Loc.new w [.slice none 0 0, .slice none 0 0, .slice none 0 0, .int .i64 0] 35
  have hr1 := Lib.hid (Rd.alloc hr (.cells #[.slice none 0 0, .slice none 0 0, .slice none 0 0, .int .i64 0] 35))
  clear hb
  have hA : Hid (∀ b off, 0 < l.length → A = some ⟨b, off, none⟩ → b < w.heap.size) := Lib.hid fun _ _ h0 hA => hr.lt h0 hA
  go_enter Try.func39, Try.ntmps39
  go_wp2_with fail
  refine (l20Open_any A c l _ hl hm hr1.out HB.out w.heap.size hA.out (by simp)).mono ?_
  rintro e w1 ⟨R, rfl, hR1, hge, hb1⟩
  replace L0 := Loc.carryB L0 (fun h => by ((repeat (first | with_reducible exact h | with_reducible refine Loc.drew ?_ | with_reducible refine Loc.drewN ?_ _ | with_reducible refine Loc.alloc ?_ _)); done)) hb1
  have HB1 : Hid (Below w.heap.size w w1) := Lib.hid (Below.next (W := w) (by repeat (first | with_reducible exact Below.refl _ _ | with_reducible refine below_drewN ?_ _ | with_reducible refine Below.drew ?_ | with_reducible refine Below.alloc ?_ ?_ _ | with_reducible refine Below.setCell ?_ ?_ _ | omega | (focus (simp; omega)) | (focus (simp; done)))) hb1)
  have hz1 := hb1.size
  simp at hge hz1
  clear hb1
  go_wp2_with fail
  refine (l20Stack_any w.heap.size R 0 12 _ hR1 (by omega) (by omega) (by omega) (by omega)).mono ?_
  rintro e w2 ⟨y0, y1, y2, y3, t, p2, rfl, hown, hsz, hcnt, hR2, hp20, hp21, hgw⟩
  replace L0 := Loc.carry L0 (fun h => by ((repeat (first | with_reducible exact h | with_reducible refine Loc.drew ?_ | with_reducible refine Loc.drewN ?_ _ | with_reducible refine Loc.alloc ?_ _)); done)) hgw (by omega)
  have HB2 : Hid (Below w.heap.size w w2) := Lib.hid (below_of_grown HB1.out hgw (by omega) (by omega))
  have hz2 := hgw.size
  obtain ⟨A0, c0, A1, c1, A2, c2, e0, e1, e2, e3⟩ := id hown.rd.mst
  subst e0 e1 e2 e3
  have HCNT := Lib.hid hcnt
  have hRB : R < w1.heap.size := hR1.lt
  clear hgw hcnt hR1
  have LS := Loc.newAt w2 [.slice A0 t.dsk.length c0, .slice A1 t.prt.length c1, .slice A2 t.lns.length c2, .int .i64 t.mst] 35 (b := w2.heap.size) rfl
  have HO := Lib.hid (StackOwn.alloc hown (.cells #[.slice A0 t.dsk.length c0, .slice A1 t.prt.length c1, .slice A2 t.lns.length c2, .int .i64 t.mst] 35))
  have hlt2 := hR2.lt
  clear hown
  go_wp2_with fail
  refine (l20Spot_any w.heap.size R w1.heap.size w2.heap.size p2 _ _ _ _ t _ (by ((repeat (first | with_reducible assumption | with_reducible refine Rdr.drew ?_ | with_reducible refine Rdr.drewN ?_ _ | with_reducible refine Rdr.alloc ?_ _ | with_reducible refine Rdr.other ?_ _ _ ?_ ?_ | omega)); done)) (by omega) (by omega) HO.out hRB hsz HCNT.out).mono ?_
  rintro e w3 ⟨n, a, p3, rfl, n0, n1, a0, a1, hR3, p30, p31, hg3⟩
  replace L0 := Loc.carry L0 (fun h => by ((repeat (first | with_reducible exact h | with_reducible refine Loc.drew ?_ | with_reducible refine Loc.drewN ?_ _ | with_reducible refine Loc.alloc ?_ _)); done)) hg3 (by omega)
  replace LS := Loc.carry LS (fun h => by ((repeat (first | with_reducible exact h | with_reducible refine Loc.drew ?_ | with_reducible refine Loc.drewN ?_ _ | with_reducible refine Loc.alloc ?_ _)); done)) hg3 (by omega)
  replace HO := Lib.hid (StackOwn.grown1 HO.out hg3 hRB)
  replace HB2 : Hid (Below w.heap.size w w3) := Lib.hid (below_of_grown (by repeat (first | with_reducible exact HB2.out | with_reducible exact Below.refl _ _ | with_reducible refine below_drewN ?_ _ | with_reducible refine Below.drew ?_ | with_reducible refine Below.alloc ?_ ?_ _ | with_reducible refine Below.setCell ?_ ?_ _ | (with_reducible refine Below.next ?_ (by assumption)) | ((with_reducible refine Below.far' (by assumption) ?_ ?_ ?_); (focus (first | omega | (simp; omega) | (simp; done))); (focus (first | omega | (simp; omega) | (simp; done)))) | omega | (focus (simp; omega)) | (focus (simp; done)))) hg3 (by simp; omega) (by omega))
  have hz3 := hg3.size
  (try simp at hz3)
  clear hg3
  obtain ⟨k0, k1, k2, k3, kf⟩ := L0.four
  obtain ⟨s0, s1, s2, s3, sf⟩ := LS.four
  have z0 := L0.lt
  have zS := LS.lt
  go_wp2
  refine bodyPost_ret (v := .tuple #[.agg #[.slice A0 t.dsk.length c0, .slice A1 t.prt.length c1, .slice A2 t.lns.length c2, .int .i64 t.mst], .int .i64 n]) (by simp [results, Try.results39, go_sem, *]; done) rfl ?_
  exact ⟨_, _, _, _, t, n, rfl, ⟨n0, n1⟩, StackOwn.mono (B := w1.heap.size) (C := w2.heap.size) (by repeat (first | with_reducible exact HO.out | with_reducible refine StackOwn.drew ?_ | with_reducible refine StackOwn.drewN ?_ _ | with_reducible refine StackOwn.alloc ?_ _ | (with_reducible refine StackOwn.below ?_ (by assumption)) | ((with_reducible refine StackOwn.other ?_ ?_ _); rotate_left; (focus (first | omega | (simp; omega) | (simp; done)))))) (by omega) (by simp; omega), hsz, HCNT.out, (by repeat (first | with_reducible exact HB2.out | with_reducible exact Below.refl _ _ | with_reducible refine below_drewN ?_ _ | with_reducible refine Below.drew ?_ | with_reducible refine Below.alloc ?_ ?_ _ | with_reducible refine Below.setCell ?_ ?_ _ | (with_reducible refine Below.next ?_ (by assumption)) | ((with_reducible refine Below.far' (by assumption) ?_ ?_ ?_); (focus (first | omega | (simp; omega) | (simp; done))); (focus (first | omega | (simp; omega) | (simp; done)))) | omega | (focus (simp; omega)) | (focus (simp; done))))⟩
set_option maxHeartbeats 2000000 in
theorem drawStw_any (A : Option Addr) (c : Nat) (l : List Int) (w : World) (hl : l.length ≤ c) (hm : c ≤ maxLen) (hr : Rd eByte w A l) (hb : ∀ x ∈ l, 0 ≤ x ∧ x ≤ 255) :
    Calls Try.prog 46 #[.slice A l.length c] w (FreshStackNAV w) := by
  have HB := Lib.hid hb
  have L0 := Loc.new w [.slice none 0 0, .slice none 0 0, .slice none 0 0, .int .i64 0] 35
  have hr1 := Lib.hid (Rd.alloc hr (.cells #[.slice none 0 0, .slice none 0 0, .slice none 0 0, .int .i64 0] 35))
  clear hb
  have hA : Hid (∀ b off, 0 < l.length → A = some ⟨b, off, none⟩ → b < w.heap.size) := Lib.hid fun _ _ h0 hA => hr.lt h0 hA
  go_enter Try.func46, Try.ntmps46
  go_wp2_with fail
  refine (l20Open_any A c l _ hl hm hr1.out HB.out w.heap.size hA.out (by simp)).mono ?_
  rintro e w1 ⟨R, rfl, hR1, hge, hb1⟩
  replace L0 := Loc.carryB L0 (fun h => by ((repeat (first | with_reducible exact h | with_reducible refine Loc.drew ?_ | with_reducible refine Loc.drewN ?_ _ | with_reducible refine Loc.alloc ?_ _)); done)) hb1
  have HB1 : Hid (Below w.heap.size w w1) := Lib.hid (Below.next (W := w) (by repeat (first | with_reducible exact Below.refl _ _ | with_reducible refine below_drewN ?_ _ | with_reducible refine Below.drew ?_ | with_reducible refine Below.alloc ?_ ?_ _ | with_reducible refine Below.setCell ?_ ?_ _ | omega | (focus (simp; omega)) | (focus (simp; done)))) hb1)
  have hz1 := hb1.size
  simp at hge hz1
  clear hb1
  go_wp2_with fail
  refine (l20Stack_any w.heap.size R 0 14 _ hR1 (by omega) (by omega) (by omega) (by omega)).mono ?_
  rintro e w2 ⟨y0, y1, y2, y3, t, p2, rfl, hown, hsz, hcnt, hR2, hp20, hp21, hgw⟩
  replace L0 := Loc.carry L0 (fun h => by ((repeat (first | with_reducible exact h | with_reducible refine Loc.drew ?_ | with_reducible refine Loc.drewN ?_ _ | with_reducible refine Loc.alloc ?_ _)); done)) hgw (by omega)
  have HB2 : Hid (Below w.heap.size w w2) := Lib.hid (below_of_grown HB1.out hgw (by omega) (by omega))
  have hz2 := hgw.size
  obtain ⟨A0, c0, A1, c1, A2, c2, e0, e1, e2, e3⟩ := id hown.rd.mst
  subst e0 e1 e2 e3
  have HCNT := Lib.hid hcnt
  have hRB : R < w1.heap.size := hR1.lt
  clear hgw hcnt hR1
  have LS := Loc.newAt w2 [.slice A0 t.dsk.length c0, .slice A1 t.prt.length c1, .slice A2 t.lns.length c2, .int .i64 t.mst] 35 (b := w2.heap.size) rfl
  have HO := Lib.hid (StackOwn.alloc hown (.cells #[.slice A0 t.dsk.length c0, .slice A1 t.prt.length c1, .slice A2 t.lns.length c2, .int .i64 t.mst] 35))
  have hlt2 := hR2.lt
  clear hown
  go_wp2_with fail
  refine (l20Spot_any w.heap.size R w1.heap.size w2.heap.size p2 _ _ _ _ t _ (by ((repeat (first | with_reducible assumption | with_reducible refine Rdr.drew ?_ | with_reducible refine Rdr.drewN ?_ _ | with_reducible refine Rdr.alloc ?_ _ | with_reducible refine Rdr.other ?_ _ _ ?_ ?_ | omega)); done)) (by omega) (by omega) HO.out hRB hsz HCNT.out).mono ?_
  rintro e w3 ⟨n, a, p3, rfl, n0, n1, a0, a1, hR3, p30, p31, hg3⟩
  replace L0 := Loc.carry L0 (fun h => by ((repeat (first | with_reducible exact h | with_reducible refine Loc.drew ?_ | with_reducible refine Loc.drewN ?_ _ | with_reducible refine Loc.alloc ?_ _)); done)) hg3 (by omega)
  replace LS := Loc.carry LS (fun h => by ((repeat (first | with_reducible exact h | with_reducible refine Loc.drew ?_ | with_reducible refine Loc.drewN ?_ _ | with_reducible refine Loc.alloc ?_ _)); done)) hg3 (by omega)
  replace HO := Lib.hid (StackOwn.grown1 HO.out hg3 hRB)
  replace HB2 : Hid (Below w.heap.size w w3) := Lib.hid (below_of_grown (by repeat (first | with_reducible exact HB2.out | with_reducible exact Below.refl _ _ | with_reducible refine below_drewN ?_ _ | with_reducible refine Below.drew ?_ | with_reducible refine Below.alloc ?_ ?_ _ | with_reducible refine Below.setCell ?_ ?_ _ | (with_reducible refine Below.next ?_ (by assumption)) | ((with_reducible refine Below.far' (by assumption) ?_ ?_ ?_); (focus (first | omega | (simp; omega) | (simp; done))); (focus (first | omega | (simp; omega) | (simp; done)))) | omega | (focus (simp; omega)) | (focus (simp; done)))) hg3 (by simp; omega) (by omega))
  have hz3 := hg3.size
  (try simp at hz3)
  clear hg3
  obtain ⟨k0, k1, k2, k3, kf⟩ := L0.four
  obtain ⟨s0, s1, s2, s3, sf⟩ := LS.four
  have z0 := L0.lt
  have zS := LS.lt
  go_wp2
  go_region_law (go_simp; go_at_call 88; go_must ((with_reducible refine (pick_any w.heap.size R p3 258 _ (by ((repeat (first | with_reducible assumption | with_reducible refine Rdr.drew ?_ | with_reducible refine Rdr.drewN ?_ _ | with_reducible refine Rdr.alloc ?_ _ | with_reducible refine Rdr.other ?_ _ _ ?_ ?_ | omega)); done)) (by omega) (by omega) (by omega)).mono ?_); rintro e w4 ⟨r4, rfl, a4, b4, hR4, hg4⟩; have b4' := b4 (by omega); clear b4; have hw4 := IntWalk.i64_in (r4 - 1) (by omega); have L04 := Loc.carry L0 (fun h => (by repeat (first | with_reducible exact h | with_reducible refine Loc.drew ?_ | with_reducible refine Loc.drewN ?_ _ | with_reducible refine Loc.alloc ?_ _ | (with_reducible refine Loc.below ?_ (by assumption)) | ((with_reducible refine Loc.other' ?_ ?_ _); (focus (first | omega | (simp; omega) | (simp; done)))) | ((with_reducible refine Loc.far' (by assumption) ?_ ?_); (focus (first | omega | (simp; omega) | (simp; done))))))) hg4 (by omega); have LS4 := Loc.carry LS (fun h => (by repeat (first | with_reducible exact h | with_reducible refine Loc.drew ?_ | with_reducible refine Loc.drewN ?_ _ | with_reducible refine Loc.alloc ?_ _ | (with_reducible refine Loc.below ?_ (by assumption)) | ((with_reducible refine Loc.other' ?_ ?_ _); (focus (first | omega | (simp; omega) | (simp; done)))) | ((with_reducible refine Loc.far' (by assumption) ?_ ?_); (focus (first | omega | (simp; omega) | (simp; done))))))) hg4 (by omega); obtain ⟨m0, m1, m2, m3, mf⟩ := L04.four; obtain ⟨q0, q1, q2, q3, qf⟩ := LS4.four; have z04 := L04.lt; have zS4 := LS4.lt; have HO4 : Hid (StackOwn w1.heap.size w4 w2.heap.size [.slice A0 t.dsk.length c0, .slice A1 t.prt.length c1, .slice A2 t.lns.length c2, .int .i64 t.mst] t) := Lib.hid (StackOwn.grown1 (by repeat (first | with_reducible exact HO.out | with_reducible refine StackOwn.drew ?_ | with_reducible refine StackOwn.drewN ?_ _ | with_reducible refine StackOwn.alloc ?_ _ | (with_reducible refine StackOwn.below ?_ (by assumption)) | ((with_reducible refine StackOwn.other ?_ ?_ _); rotate_left; (focus (first | omega | (simp; omega) | (simp; done)))))) hg4 hRB); have HB4 : Hid (Below w.heap.size w w4) := Lib.hid (below_of_grown (by repeat (first | with_reducible exact HB2.out | with_reducible exact Below.refl _ _ | with_reducible refine below_drewN ?_ _ | with_reducible refine Below.drew ?_ | with_reducible refine Below.alloc ?_ ?_ _ | with_reducible refine Below.setCell ?_ ?_ _ | (with_reducible refine Below.next ?_ (by assumption)) | ((with_reducible refine Below.far' (by assumption) ?_ ?_ ?_); (focus (first | omega | (simp; omega) | (simp; done))); (focus (first | omega | (simp; omega) | (simp; done)))) | omega | (focus (simp; omega)) | (focus (simp; done)))) hg4 (by simp; omega) (by omega)); have hz4 := hg4.size; clear hg4))
  all_goals
    have hzz : w3.heap.size ≤ w4.heap.size := hz4
    go_wp2
    refine bodyPost_ret (v := .tuple #[.agg #[.slice A0 t.dsk.length c0, .slice A1 t.prt.length c1, .slice A2 t.lns.length c2, .int .i64 t.mst], .int .i64 n, .int .i64 a, .int .i64 (r4 - 1)]) (by simp [results, Try.results46, go_sem, *]; done) rfl ?_
    exact ⟨_, _, _, _, t, n, a, r4 - 1, rfl, ⟨n0, n1⟩, ⟨a0, a1⟩, ⟨by omega, by omega⟩, StackOwn.mono (B := w1.heap.size) (C := w2.heap.size) (by repeat (first | with_reducible exact HO4.out | with_reducible refine StackOwn.drew ?_ | with_reducible refine StackOwn.drewN ?_ _ | with_reducible refine StackOwn.alloc ?_ _ | (with_reducible refine StackOwn.below ?_ (by assumption)) | ((with_reducible refine StackOwn.other ?_ ?_ _); rotate_left; (focus (first | omega | (simp; omega) | (simp; done)))))) (by omega) (by simp; omega), hsz, HCNT.out, (by repeat (first | with_reducible exact HB4.out | with_reducible exact Below.refl _ _ | with_reducible refine below_drewN ?_ _ | with_reducible refine Below.drew ?_ | with_reducible refine Below.alloc ?_ ?_ _ | with_reducible refine Below.setCell ?_ ?_ _ | (with_reducible refine Below.next ?_ (by assumption)) | ((with_reducible refine Below.far' (by assumption) ?_ ?_ ?_); (focus (first | omega | (simp; omega) | (simp; done))); (focus (first | omega | (simp; omega) | (simp; done)))) | omega | (focus (simp; omega)) | (focus (simp; done))))⟩
end Go.Proofs.Ytlhbjfjphckifaa
