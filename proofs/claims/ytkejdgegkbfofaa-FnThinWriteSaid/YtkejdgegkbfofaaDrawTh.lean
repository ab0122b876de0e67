/-
  What the draw of a thin volume gives. Conditions: the count of draws stays below 10^9.
-/
import Derived.Test.YtkejdgegkbfofaaBase
import Derived.Test.YtkejdgegkbfofaaNum
import Derived.Test.YtkejdgegkbfofaaInts
import Derived.Test.YtkejdgegkbfofaaApp
import Derived.Test.YtkejdgegkbfofaaIntsW
import Derived.Test.YtkejdgegkbfofaaLib
import Derived.Test.YtkejdgegkbfofaaSpares
import Derived.Test.YtkejdgegkbfofaaOwn
import Derived.Test.YtkejdgegkbfofaaThin
import Derived.Test.YtkejdgegkbfofaaThinM
import Derived.Test.YtkejdgegkbfofaaThinC
import Derived.Test.YtkejdgegkbfofaaThinW
import Derived.Test.YtkejdgegkbfofaaThinF
import Derived.Test.YtkejdgegkbfofaaThinX
import Derived.Test.YtkejdgegkbfofaaThinY
import Derived.Test.YtkejdgegkbfofaaThinP
import Derived.Test.YtkejdgegkbfofaaThinV
import Derived.Test.YtkejdgegkbfofaaThinTr
import Derived.Test.YtkejdgegkbfofaaDraw
import Derived.Test.YtkejdgegkbfofaaDrawK
import Derived.Test.YtkejdgegkbfofaaDrawD
import Derived.Test.YtkejdgegkbfofaaKept
import Derived.IntWalk
namespace Go.Proofs.Ytkejdgegkbfofaa
open Go.RowKit
section
variable {B C : Nat} {w w' : World} {xs : List Value} {t : Th}
theorem ThinOwn.drew (h : ThinOwn B w C xs t) : ThinOwn B w.drew C xs t := h
theorem ThinOwn.drewN (h : ThinOwn B w C xs t) (n : Nat) : ThinOwn B (w.drewN n) C xs t := h
theorem ThinOwn.alloc (h : ThinOwn B w C xs t) (o : Obj) : ThinOwn B (w.alloc o) C xs t := h.below ((Below.refl _ _).alloc (Nat.le_refl _) o)
theorem ThinOwn.other (h : ThinOwn B w C xs t) {p : Addr} (hp : p.block < B ∨ C ≤ p.block) (v : Value) : ThinOwn B (w.setCell p v) C xs t := by
  obtain ⟨u, v', h1, h2, h3, h4⟩ := h
  exact ⟨u, v', h1, h2.other hp v, h3.other hp v, h4⟩
theorem ThinOwn.mono {B' C' : Nat} (h : ThinOwn B w C xs t) (h1 : B' ≤ B) (h2 : C ≤ C') : ThinOwn B' w C' xs t := by
  obtain ⟨u, v, h0, a, b, h4⟩ := h
  exact ⟨u, v, h0, a.mono h1 h2, b.mono h1 h2, h4⟩
theorem ThinOwn.grown1 {R : Nat} (h : ThinOwn B w C xs t) (hg : w.grownBy w' (some R)) (hR : R < B) : ThinOwn B w' C xs t := h.gin (GIn.of_grown hg (Nat.le_refl R) (Nat.lt_succ_self R)) (.inr hR)
theorem Row.renewT {α : Type} {E : Enc α} {g : Nat} {e : TypeId} {A : Option Addr} {c : Nat} {l : List α} (h : Row E w g e A c l) (k : Row E w' g e A c l) (N : Nat) : ∃ g', Row E w' g' e A c l ∧ (g' = N ∨ (g' = g ∧ g < w.heap.size)) := by
  rcases h with h | ⟨cur, rfl, hh, r⟩
  · exact ⟨N, .inl h, .inl rfl⟩
  · exact ⟨g, k, .inr ⟨rfl, (Array.getElem?_eq_some_iff.1 hh).1⟩⟩
/-- the two rows of a volume of ours, in two blocks that are not X -/
theorem thin_rows {X n n' c c' : Nat} {A A' : Option Addr} (h : ThinOwn B w C [.slice A n c, .slice A' n' c'] t) (hX : C ≤ X ∨ X < B) (hBC : B ≤ C) :
    ∃ g g', Row eInt w g 3 A c t.whr ∧ Row eInt w g' 3 A' c' t.pool ∧ B ≤ g ∧ B ≤ g' ∧ g ≠ X ∧ g' ≠ X ∧ g ≠ g' := by
  obtain ⟨u, v, h1, h2, h3, h4⟩ := h
  simp only [List.cons.injEq, and_true] at h1
  obtain ⟨rfl, rfl⟩ := h1
  rcases hX with hX | hX
  · obtain ⟨a, d, g, a', d', g', e1, e2, r1, r2, q1, q2, q3, q4, q5, _, _⟩ := two_rows h2 h3 h4 X hX (by omega)
    injection e1 with e1 _ e3
    injection e2 with e2 _ e4
    subst e1 e2 e3 e4
    exact ⟨g, g', r1, r2, q1, q2, q3, q4, q5⟩
  · obtain ⟨a, d, g, a', d', g', e1, e2, r1, r2, q1, q2, q3, q4, q5, _, _⟩ := two_rows h2 h3 h4 C (Nat.le_refl _) hBC
    injection e1 with e1 _ e3
    injection e2 with e2 _ e4
    subst e1 e2 e3 e4
    exact ⟨g, g', r1, r2, q1, q2, by omega, by omega, q5⟩
end
/-- A drawn thin volume: it may be read now and as long as its blocks stay. -/
def DrawnThin (w : World) (B R : Nat) (p : Int) (e : Ending) (w' : World) : Prop :=
  ∃ y0 y1 t p', e = .returned (.agg #[y0, y1]) ∧ (∀ w'', Kept w.heap.size w' w'' → ThinRd w'' [y0, y1] t) ∧ sizeThin t ≤ 60 ∧ Rdr w' 63 B R p' ∧ p ≤ p' ∧ p' ≤ p + 200 ∧ w.grownBy w' (some R)
set_option linter.unusedSimpArgs false in
set_option maxHeartbeats 8000000 in
theorem l20Thin_any (B R : Nat) (p n : Int) (w : World) (h : Rdr w 63 B R p) (hp0 : 0 ≤ p) (hp1 : p ≤ 100000000) (hn1 : 1 ≤ n) (hn : n ≤ 1000000) :
    Calls Try.prog 40 #[.pointer (some ⟨R, 0, none⟩), .int .i64 n] w (DrawnThin w B R p) := by
  have hBR := h.ge
  have hRl := h.lt
  have L4 := Loc.new w [.slice none 0 0, .slice none 0 0] 26
  have ne0 : w.heap.size ≠ R := by omega
  go_enter Try.func40, Try.ntmps40
  go_wp2_with fail
  refine (pick_any B R (p) (9) _ (by ((repeat (first | with_reducible assumption | with_reducible refine Rdr.drew ?_ | with_reducible refine Rdr.drewN ?_ _ | with_reducible refine Rdr.alloc ?_ _ | with_reducible refine Rdr.other ?_ _ _ ?_ ?_ | omega)); done)) (by omega) (by omega) (by omega)).mono ?_
  rintro e w1 ⟨r1, rfl, a1, b1, hR1, hg1⟩
  have b1' := b1 (by omega)
  clear b1
  replace hR1 := hR1.to (p' := p + 1) (by omega)
  have hz1 := hg1.size
  (try simp at hz1)
  have hlt1 := hR1.lt
  have ne1 : w1.heap.size ≠ R := by omega
  replace L4 := Loc.carry L4 (fun h => by ((repeat (first | with_reducible exact h | with_reducible refine Loc.drew ?_ | with_reducible refine Loc.drewN ?_ _ | with_reducible refine Loc.alloc ?_ _)); done)) hg1 (by omega)
  have HG1 := Lib.hid (grownBy_trans (grownBy_alloc (grownBy_refl w (some R)) _) hg1)
  clear hg1
  go_wp2_with fail
  refine (pick_any B R (p + 1) (7) _ (by ((repeat (first | with_reducible assumption | with_reducible refine Rdr.drew ?_ | with_reducible refine Rdr.drewN ?_ _ | with_reducible refine Rdr.alloc ?_ _ | with_reducible refine Rdr.other ?_ _ _ ?_ ?_ | omega)); done)) (by omega) (by omega) (by omega)).mono ?_
  rintro e w2 ⟨r2, rfl, a2, b2, hR2, hg2⟩
  have b2' := b2 (by omega)
  clear b2
  replace hR2 := hR2.to (p' := p + 1 + 1) (by omega)
  have hz2 := hg2.size
  (try simp at hz2)
  have hlt2 := hR2.lt
  have ne2 : w2.heap.size ≠ R := by omega
  replace L4 := Loc.carry L4 (fun h => by ((repeat (first | with_reducible exact h | with_reducible refine Loc.drew ?_ | with_reducible refine Loc.drewN ?_ _ | with_reducible refine Loc.alloc ?_ _)); done)) hg2 (by omega)
  have HG2 := Lib.hid (grownBy_trans HG1.out hg2)
  clear hg2 HG1
  obtain ⟨m, rfl⟩ := Int.eq_ofNat_of_zero_le a1
  obtain ⟨m', rfl⟩ := Int.eq_ofNat_of_zero_le a2
  go_wp2_with fail
  refine (specNewThin_c m m' (by omega) (by omega) _).mono ?_
  obtain ⟨t0, ht0⟩ : ∃ x : Th, x = ⟨List.replicate m (-1), List.replicate m' 0⟩ := ⟨_, rfl⟩
  have hsz0 : sizeThin t0 ≤ 14 := by rw [ht0]; unfold sizeThin; simp; omega
  rw [← ht0]
  clear ht0
  rintro e w3 ⟨y0, y1, rfl, O3, hb3⟩
  replace L4 := Loc.carryB L4 (fun h => by ((repeat (first | with_reducible exact h | with_reducible refine Loc.drew ?_ | with_reducible refine Loc.drewN ?_ _ | with_reducible refine Loc.alloc ?_ _)); done)) hb3
  have hR3 := hR2.below hb3
  have HG3 := Lib.hid (grownBy_below HG2.out hb3)
  have hz3 := hb3.size
  have hlt3 := hR3.lt
  obtain ⟨Ay, cy, Ay', cy', rfl, rfl⟩ := thinRd_lens (ThinOwn.rd O3)
  have LX := Loc.newAt w3 [.slice Ay t0.whr.length cy, .slice Ay' t0.pool.length cy'] 26 (b := w3.heap.size) rfl
  have HO := Lib.hid (ThinOwn.alloc O3 (.cells #[.slice Ay t0.whr.length cy, .slice Ay' t0.pool.length cy'] 26))
  have ne3 : w3.heap.size ≠ R := by omega
  have hRB : R < w2.heap.size := by omega
  clear hb3 O3 HG2
  go_wp2_with fail
  refine (pick_any B R (p + 1 + 1) (12) _ (by ((repeat (first | with_reducible assumption | with_reducible refine Rdr.drew ?_ | with_reducible refine Rdr.drewN ?_ _ | with_reducible refine Rdr.alloc ?_ _ | with_reducible refine Rdr.other ?_ _ _ ?_ ?_ | omega)); done)) (by omega) (by omega) (by omega)).mono ?_
  rintro e w4 ⟨r4, rfl, a4, b4, hR4, hg4⟩
  have b4' := b4 (by omega)
  clear b4
  replace hR4 := hR4.to (p' := p + 1 + 1 + 1) (by omega)
  have hz4 := hg4.size
  (try simp at hz4)
  have hlt4 := hR4.lt
  have ne4 : w4.heap.size ≠ R := by omega
  replace L4 := Loc.carry L4 (fun h => by ((repeat (first | with_reducible exact h | with_reducible refine Loc.drew ?_ | with_reducible refine Loc.drewN ?_ _ | with_reducible refine Loc.alloc ?_ _)); done)) hg4 (by omega)
  replace LX := Loc.carry LX (fun h => by ((repeat (first | with_reducible exact h | with_reducible refine Loc.drew ?_ | with_reducible refine Loc.drewN ?_ _ | with_reducible refine Loc.alloc ?_ _)); done)) hg4 (by omega)
  have HG4 := Lib.hid (grownBy_trans (grownBy_alloc HG3.out _) hg4)
  have HO4 := Lib.hid (ThinOwn.grown1 HO.out hg4 hRB)
  clear hg4 HG3 HO
  go_wp2
  go_loopw [6] (fun kk wr => ∃ k q : Int, kk = .int .i64 k ∧ 0 ≤ k ∧ k ≤ 11 ∧ p ≤ q ∧ q + 3 * k ≤ p + 100 ∧ Rdr wr 63 B R q ∧ w.grownBy wr (some R) ∧ Loc wr w.heap.size [.slice none 0 0, .slice none 0 0] ∧ ∃ (t : Th) (D0 D1 : Option Addr) (g0 g1 Bs Cs : Nat), Loc wr w3.heap.size [.slice D0 t.whr.length g0, .slice D1 t.pool.length g1] ∧ (sizeThin t : Int) + k ≤ 30 ∧ ThinOwn Bs wr Cs [.slice D0 t.whr.length g0, .slice D1 t.pool.length g1] t ∧ (Cs ≤ w3.heap.size ∨ w3.heap.size < Bs) ∧ Bs ≤ Cs ∧ R < Bs ∧ w.heap.size < Bs ∧ Cs ≤ wr.heap.size) (fun kk _ => (intOf kk).toNat)
  case atStart => exact ⟨r4, p + 1 + 1 + 1, rfl, by omega, by omega, by omega, by omega, hR4, HG4.out, L4, t0, Ay, Ay', cy, cy', w2.heap.size, w3.heap.size, LX, by omega, HO4.out, .inl (Nat.le_refl _), by omega, by omega, by omega, by omega⟩
  case round =>
    clear L4 LX HO4 HG4
    obtain ⟨k, q, rfl, k0, k1, q0, q1, hRq, hgw, L4, t, D0, D1, g0, g1, Bs, Cs, LX, hsz, hown, hBC, hBsC, hRBs, hwBs, hCs⟩ := hrel
    obtain ⟨wa, hwa⟩ : ∃ x, x = wr := ⟨_, rfl⟩
    subst hwa
    have hzr := hgw.size
    have hRr := hRq.lt
    have zX := LX.lt
    have z4 := L4.lt
    have HO := Lib.hid hown
    have HG := Lib.hid hgw
    obtain ⟨s0, s1, sf⟩ := LX.two
    have hsw : t.whr.length ≤ 30 := by unfold sizeThin at hsz; omega
    have hsp : t.pool.length ≤ 30 := by unfold sizeThin at hsz; omega
    clear hown hgw
    by_cases hk : 0 < k
    · by_cases hw0 : 0 < t.whr.length
      · have hw0' : (0 : Int) < (t.whr.length : Int) := by omega
        have htsz : Hid (sizeThin t ≤ 1099511627776) := Lib.hid (by omega)
        go_wp2_with fail
        refine (pick_any B R (q) (4) _ (by ((repeat (first | with_reducible assumption | with_reducible refine Rdr.drew ?_ | with_reducible refine Rdr.drewN ?_ _ | with_reducible refine Rdr.alloc ?_ _ | with_reducible refine Rdr.other ?_ _ _ ?_ ?_ | omega)); done)) (by omega) (by omega) (by omega)).mono ?_
        rintro e w4 ⟨r4, rfl, a4, b4, hR4, hg4⟩
        have b4' := b4 (by omega)
        clear b4
        replace hR4 := hR4.to (p' := q + 1) (by omega)
        have hz4 := hg4.size
        (try simp at hz4)
        have hlt4 := hR4.lt
        have ne4 : w4.heap.size ≠ R := by omega
        have LX4 := Loc.carry LX (fun h => by ((repeat (first | with_reducible exact h | with_reducible refine Loc.drew ?_ | with_reducible refine Loc.drewN ?_ _ | with_reducible refine Loc.alloc ?_ _)); done)) hg4 (by omega)
        have L44 := Loc.carry L4 (fun h => by ((repeat (first | with_reducible exact h | with_reducible refine Loc.drew ?_ | with_reducible refine Loc.drewN ?_ _ | with_reducible refine Loc.alloc ?_ _)); done)) hg4 (by omega)
        have HO4 := Lib.hid (ThinOwn.grown1 HO.out hg4 hRBs)
        have HG4 := Lib.hid (grownBy_trans HG.out hg4)
        have zX4 := LX4.lt
        clear hg4 s0 s1 sf
        obtain ⟨s0, s1, sf⟩ := LX4.two
        by_cases h4 : r4 = 0
        · subst h4
          go_wp2
          go_region_law (first
            | (go_simp; go_at_call 45; (with_reducible refine (pick_any B R (q + 1) t.whr.length _ (by ((repeat (first | with_reducible assumption | with_reducible refine Rdr.drew ?_ | with_reducible refine Rdr.drewN ?_ _ | with_reducible refine Rdr.alloc ?_ _ | with_reducible refine Rdr.other ?_ _ _ ?_ ?_ | omega)); done)) (by omega) (by omega) (by omega)).mono ?_); go_must (rintro e w7 ⟨r7, rfl, a7, b7, hR7, hg7⟩; have b7' := b7 (by omega); clear b7; replace hR7 := hR7.to (p' := q + 1 + 1) (by omega); have LX7 := Loc.carry LX4 (fun h => by ((repeat (first | with_reducible exact h | with_reducible refine Loc.drew ?_ | with_reducible refine Loc.drewN ?_ _ | with_reducible refine Loc.alloc ?_ _)); done)) hg7 (by omega); have L47 := Loc.carry L44 (fun h => by ((repeat (first | with_reducible exact h | with_reducible refine Loc.drew ?_ | with_reducible refine Loc.drewN ?_ _ | with_reducible refine Loc.alloc ?_ _)); done)) hg7 (by omega); obtain ⟨j0, j1, jf⟩ := LX7.two; have HO7 := Lib.hid (ThinOwn.grown1 (ThinOwn.drew HO4.out) hg7 hRBs); have HG7 := Lib.hid (grownBy_trans (grownBy_drew HG4.out) hg7); have hz7 := hg7.size; (try simp at hz7); have hlt7 := hR7.lt; have zX7 := LX7.lt; clear hg7))
            | (go_simp; go_at_call 23; (with_reducible refine (specTrim_c _ _ t r7 _ (ThinOwn.rd HO7.out) htsz.out).mono ?_); go_must (have hs9 := trimT_size t r7; obtain ⟨t', ht'⟩ : ∃ t', t' = trimT t r7 := ⟨_, rfl⟩; rw [← ht'] at hs9 ⊢; clear ht'; rintro e w9 ⟨y0, y1, rfl, O9, hb9⟩; obtain ⟨E0, h0, E1, h1, rfl, rfl⟩ := thinRd_lens (ThinOwn.rd O9); have LX9 := Loc.carryB LX7 (fun h => by ((repeat (first | with_reducible exact h | with_reducible refine Loc.drew ?_ | with_reducible refine Loc.drewN ?_ _ | with_reducible refine Loc.alloc ?_ _)); done)) hb9; have L49 := Loc.carryB L47 (fun h => by ((repeat (first | with_reducible exact h | with_reducible refine Loc.drew ?_ | with_reducible refine Loc.drewN ?_ _ | with_reducible refine Loc.alloc ?_ _)); done)) hb9; obtain ⟨x0, x1, xf⟩ := LX9.two; have HO9 := Lib.hid O9; have HG9 := Lib.hid (grownBy_below HG7.out hb9); have hR9 := hR7.below hb9; have hz9 := hb9.size; (try simp at hz9); have zX9 := LX9.lt; clear hb9 O9)))
          all_goals
            have LXx : Loc ((w9.setCell ⟨w3.heap.size, 0, none⟩ (.slice E0 t'.whr.length h0)).setCell ⟨w3.heap.size, 1, none⟩ (.slice E1 t'.pool.length h1)) w3.heap.size [.slice E0 t'.whr.length h0, .slice E1 t'.pool.length h1] := by simpa using (LX9.set 0 (.slice E0 t'.whr.length h0)).set 1 (.slice E1 t'.pool.length h1)
            have HOx : Hid (ThinOwn w7.heap.size ((w9.setCell ⟨w3.heap.size, 0, none⟩ (.slice E0 t'.whr.length h0)).setCell ⟨w3.heap.size, 1, none⟩ (.slice E1 t'.pool.length h1)) w9.heap.size [.slice E0 t'.whr.length h0, .slice E1 t'.pool.length h1] t') := Lib.hid (ThinOwn.other (ThinOwn.other HO9.out (.inl (by simp only; omega)) _) (.inl (by simp only; omega)) _)
            go_wp2
            go_roundw
            case rel => exact ⟨k - 1, q + 1 + 1, rfl, by omega, by omega, by omega, by omega, Rdr.other (Rdr.other hR9 _ _ (by omega) ne3) _ _ (by omega) ne3, grownBy_set (grownBy_set HG9.out (by omega) _ _) (by omega) _ _, (by repeat (first | with_reducible exact L49 | with_reducible refine Loc.drew ?_ | with_reducible refine Loc.drewN ?_ _ | with_reducible refine Loc.alloc ?_ _ | (with_reducible refine Loc.below ?_ (by assumption)) | ((with_reducible refine Loc.other' ?_ ?_ _); (focus (first | omega | (simp; omega) | (simp; done)))) | ((with_reducible refine Loc.far' (by assumption) ?_ ?_); (focus (first | omega | (simp; omega) | (simp; done)))))), t', E0, E1, h0, h1, w7.heap.size, w9.heap.size, LXx, by omega, HOx.out, .inr (by omega), by omega, by omega, by omega, by simp⟩
            case measure => simp [intOf]; omega
        · have h4' : (r4 == 0) = false := by simp [h4]
          go_wp2
          go_region_law (first
            | (go_simp; go_at_call 45; (with_reducible refine (pick_any B R (q + 1) t.whr.length _ (by ((repeat (first | with_reducible assumption | with_reducible refine Rdr.drew ?_ | with_reducible refine Rdr.drewN ?_ _ | with_reducible refine Rdr.alloc ?_ _ | with_reducible refine Rdr.other ?_ _ _ ?_ ?_ | omega)); done)) (by omega) (by omega) (by omega)).mono ?_); go_must (rintro e w7 ⟨r7, rfl, a7, b7, hR7, hg7⟩; have b7' := b7 (by omega); clear b7; replace hR7 := hR7.to (p' := q + 1 + 1) (by omega); have LX7 := Loc.carry LX4 (fun h => by ((repeat (first | with_reducible exact h | with_reducible refine Loc.drew ?_ | with_reducible refine Loc.drewN ?_ _ | with_reducible refine Loc.alloc ?_ _)); done)) hg7 (by omega); have L47 := Loc.carry L44 (fun h => by ((repeat (first | with_reducible exact h | with_reducible refine Loc.drew ?_ | with_reducible refine Loc.drewN ?_ _ | with_reducible refine Loc.alloc ?_ _)); done)) hg7 (by omega); obtain ⟨j0, j1, jf⟩ := LX7.two; have HO7 := Lib.hid (ThinOwn.grown1 (ThinOwn.drew HO4.out) hg7 hRBs); have HG7 := Lib.hid (grownBy_trans (grownBy_drew HG4.out) hg7); have hz7 := hg7.size; (try simp at hz7); have hlt7 := hR7.lt; have zX7 := LX7.lt; clear hg7))
            | (go_simp; go_at_call 45; (with_reducible refine (pick_any B R (q + 1 + 1) 256 _ (by ((repeat (first | with_reducible assumption | with_reducible refine Rdr.drew ?_ | with_reducible refine Rdr.drewN ?_ _ | with_reducible refine Rdr.alloc ?_ _ | with_reducible refine Rdr.other ?_ _ _ ?_ ?_ | omega)); done)) (by omega) (by omega) (by omega)).mono ?_); go_must (rintro e w8 ⟨r8, rfl, a8, b8, hR8, hg8⟩; have b8' := b8 (by omega); clear b8; replace hR8 := hR8.to (p' := q + 1 + 1 + 1) (by omega); have LX8 := Loc.carry LX7 (fun h => by ((repeat (first | with_reducible exact h | with_reducible refine Loc.drew ?_ | with_reducible refine Loc.drewN ?_ _ | with_reducible refine Loc.alloc ?_ _)); done)) hg8 (by omega); have L48 := Loc.carry L47 (fun h => by ((repeat (first | with_reducible exact h | with_reducible refine Loc.drew ?_ | with_reducible refine Loc.drewN ?_ _ | with_reducible refine Loc.alloc ?_ _)); done)) hg8 (by omega); obtain ⟨v0, v1, vf⟩ := LX8.two; have HO8 := Lib.hid (ThinOwn.grown1 HO7.out hg8 hRBs); have HG8 := Lib.hid (grownBy_trans HG7.out hg8); have hz8 := hg8.size; (try simp at hz8); have hlt8 := hR8.lt; have zX8 := LX8.lt; clear hg8))
            | (go_simp; go_at_call 8; (with_reducible refine (specThinWrite_c _ _ t r7 r8 _ (ThinOwn.rd HO8.out) htsz.out).mono ?_); go_must (have hs9 := thinWriteB_size t r7 r8; obtain ⟨t', ht'⟩ : ∃ t', t' = thinWriteB t r7 r8 := ⟨_, rfl⟩; obtain ⟨ok, hok⟩ : ∃ ok, ok = thinWriteOk t r7 r8 := ⟨_, rfl⟩; rw [← ht'] at hs9 ⊢; rw [← hok]; clear ht' hok; rintro e w9 ⟨y0, y1, rfl, O9, hb9⟩; obtain ⟨E0, h0, E1, h1, rfl, rfl⟩ := thinRd_lens (ThinOwn.rd O9); have LX9 := Loc.carryB LX8 (fun h => by ((repeat (first | with_reducible exact h | with_reducible refine Loc.drew ?_ | with_reducible refine Loc.drewN ?_ _ | with_reducible refine Loc.alloc ?_ _)); done)) hb9; have L49 := Loc.carryB L48 (fun h => by ((repeat (first | with_reducible exact h | with_reducible refine Loc.drew ?_ | with_reducible refine Loc.drewN ?_ _ | with_reducible refine Loc.alloc ?_ _)); done)) hb9; obtain ⟨x0, x1, xf⟩ := LX9.two; have HO9 := Lib.hid O9; have HG9 := Lib.hid (grownBy_below HG8.out hb9); have hR9 := hR8.below hb9; have hz9 := hb9.size; (try simp at hz9); have zX9 := LX9.lt; clear hb9 O9)))
          all_goals
            have LXx : Loc ((w9.setCell ⟨w3.heap.size, 0, none⟩ (.slice E0 t'.whr.length h0)).setCell ⟨w3.heap.size, 1, none⟩ (.slice E1 t'.pool.length h1)) w3.heap.size [.slice E0 t'.whr.length h0, .slice E1 t'.pool.length h1] := by simpa using (LX9.set 0 (.slice E0 t'.whr.length h0)).set 1 (.slice E1 t'.pool.length h1)
            have HOx : Hid (ThinOwn w8.heap.size ((w9.setCell ⟨w3.heap.size, 0, none⟩ (.slice E0 t'.whr.length h0)).setCell ⟨w3.heap.size, 1, none⟩ (.slice E1 t'.pool.length h1)) w9.heap.size [.slice E0 t'.whr.length h0, .slice E1 t'.pool.length h1] t') := Lib.hid (ThinOwn.other (ThinOwn.other HO9.out (.inl (by simp only; omega)) _) (.inl (by simp only; omega)) _)
            go_wp2
            go_roundw
            case rel => exact ⟨k - 1, q + 1 + 1 + 1, rfl, by omega, by omega, by omega, by omega, Rdr.other (Rdr.other hR9 _ _ (by omega) ne3) _ _ (by omega) ne3, grownBy_set (grownBy_set HG9.out (by omega) _ _) (by omega) _ _, (by repeat (first | with_reducible exact L49 | with_reducible refine Loc.drew ?_ | with_reducible refine Loc.drewN ?_ _ | with_reducible refine Loc.alloc ?_ _ | (with_reducible refine Loc.below ?_ (by assumption)) | ((with_reducible refine Loc.other' ?_ ?_ _); (focus (first | omega | (simp; omega) | (simp; done)))) | ((with_reducible refine Loc.far' (by assumption) ?_ ?_); (focus (first | omega | (simp; omega) | (simp; done)))))), t', E0, E1, h0, h1, w8.heap.size, w9.heap.size, LXx, by omega, HOx.out, .inr (by omega), by omega, by omega, by omega, by simp⟩
            case measure => simp [intOf]; omega
      · have hw0' : ¬ (0 : Int) < (t.whr.length : Int) := by omega
        obtain ⟨g, g', row, row', hgB, hgB', hgX, hgX', hgg⟩ := thin_rows HO.out hBC hBsC
        have H1 := Lib.hid row
        have H2 := Lib.hid row'
        clear row row'
        go_wp2_with fail
        refine (odd_any B R q n _ (by ((repeat (first | with_reducible assumption | with_reducible refine Rdr.drew ?_ | with_reducible refine Rdr.drewN ?_ _ | with_reducible refine Rdr.alloc ?_ _ | with_reducible refine Rdr.other ?_ _ _ ?_ ?_ | omega)); done)) (by omega) (by omega) (by omega) (by omega)).mono ?_
        rintro e w4 ⟨r4, rfl, hR4, hg4⟩
        replace hR4 := hR4.to (p' := q + 1) (by omega)
        have hz4 := hg4.size
        have hlt4 := hR4.lt
        replace LX := Loc.carry LX (fun h => by ((repeat (first | with_reducible exact h | with_reducible refine Loc.drew ?_ | with_reducible refine Loc.drewN ?_ _ | with_reducible refine Loc.alloc ?_ _)); done)) hg4 (by omega)
        replace L4 := Loc.carry L4 (fun h => by ((repeat (first | with_reducible exact h | with_reducible refine Loc.drew ?_ | with_reducible refine Loc.drewN ?_ _ | with_reducible refine Loc.alloc ?_ _)); done)) hg4 (by omega)
        have H14 := Lib.hid (Row.grown H1.out hg4 (by omega))
        have H24 := Lib.hid (Row.grown H2.out hg4 (by omega))
        have HG4 := Lib.hid (grownBy_trans HG.out hg4)
        have zX4 := LX.lt
        have z44 := L4.lt
        clear hg4 s0 s1 sf HO HG H1 H2
        cases r4
        · obtain ⟨s0, s1, sf⟩ := LX.two
          obtain ⟨v0, v1, vf⟩ := L4.two
          go_wp2
          refine bodyPost_ret (v := .agg #[.slice D0 t.whr.length g0, .slice D1 t.pool.length g1]) (by simp [results, Try.results40, go_sem, *]; done) rfl ?_
          exact ⟨_, _, t, q + 1, rfl, fun w'' hk => ⟨_, _, rfl, SOwn.rd (SOwn.kept (SOwn.of_rown (D := w.heap.size) (g := g) (by repeat (first | with_reducible exact H14.out | with_reducible refine Row.drew ?_ | with_reducible refine Row.drewN ?_ _ | with_reducible refine Row.alloc ?_ _ | (with_reducible refine Row.below ?_ (by assumption)) | ((with_reducible refine Row.other ?_ ?_ _); rotate_left; (focus (first | omega | (simp; omega) | (simp; done)))) | ((with_reducible refine Row.far' (by assumption) ?_ ?_); (focus (first | omega | (simp; omega) | (simp; done)))))) (by first | rfl | omega) (by omega)) hk), SOwn.rd (SOwn.kept (SOwn.of_rown (D := w.heap.size) (g := g') (by repeat (first | with_reducible exact H24.out | with_reducible refine Row.drew ?_ | with_reducible refine Row.drewN ?_ _ | with_reducible refine Row.alloc ?_ _ | (with_reducible refine Row.below ?_ (by assumption)) | ((with_reducible refine Row.other ?_ ?_ _); rotate_left; (focus (first | omega | (simp; omega) | (simp; done)))) | ((with_reducible refine Row.far' (by assumption) ?_ ?_); (focus (first | omega | (simp; omega) | (simp; done)))))) (by first | rfl | omega) (by omega)) hk)⟩, by unfold sizeThin at hsz ⊢; (try simp only); omega, (by ((repeat (first | with_reducible assumption | with_reducible refine Rdr.drew ?_ | with_reducible refine Rdr.drewN ?_ _ | with_reducible refine Rdr.alloc ?_ _ | with_reducible refine Rdr.other ?_ _ _ ?_ ?_ | omega)); done)), by omega, by omega, (by repeat (first | with_reducible exact HG4.out | with_reducible refine grownBy_drew ?_ | with_reducible refine grownBy_drewN ?_ _ | with_reducible refine grownBy_alloc ?_ _ | (with_reducible refine grownBy_below ?_ (by assumption)) | ((with_reducible refine grownBy_set ?_ ?_ _ _); rotate_left; (focus (first | omega | (simp; omega) | (simp; done)))) | ((with_reducible refine grownBy_trans ?_ (by assumption)); done) | ((with_reducible refine grownBy_new (by assumption) ?_ ?_); (focus (first | omega | (simp; omega) | (simp; done))))))⟩
        · go_wp2_with fail
          refine (pick_any B R (q + 1) (3) _ (by ((repeat (first | with_reducible assumption | with_reducible refine Rdr.drew ?_ | with_reducible refine Rdr.drewN ?_ _ | with_reducible refine Rdr.alloc ?_ _ | with_reducible refine Rdr.other ?_ _ _ ?_ ?_ | omega)); done)) (by omega) (by omega) (by omega)).mono ?_
          rintro e w5 ⟨r5, rfl, a5, b5, hR5, hg5⟩
          have b5' := b5 (by omega)
          clear b5
          replace hR5 := hR5.to (p' := q + 1 + 1) (by omega)
          have hz5 := hg5.size
          (try simp at hz5)
          have hlt5 := hR5.lt
          have ne5 : w5.heap.size ≠ R := by omega
          replace LX := Loc.carry LX (fun h => by ((repeat (first | with_reducible exact h | with_reducible refine Loc.drew ?_ | with_reducible refine Loc.drewN ?_ _ | with_reducible refine Loc.alloc ?_ _)); done)) hg5 (by omega)
          replace L4 := Loc.carry L4 (fun h => by ((repeat (first | with_reducible exact h | with_reducible refine Loc.drew ?_ | with_reducible refine Loc.drewN ?_ _ | with_reducible refine Loc.alloc ?_ _)); done)) hg5 (by omega)
          have H15 := Lib.hid (Row.grown H14.out hg5 (by omega))
          have H25 := Lib.hid (Row.grown H24.out hg5 (by omega))
          have HG5 := Lib.hid (grownBy_trans HG4.out hg5)
          have zX5 := LX.lt
          have z45 := L4.lt
          clear hg5 HG4 zX4 z44 H14 H24
          obtain ⟨s0, s1, sf⟩ := LX.two
          obtain ⟨v0, v1, vf⟩ := L4.two
          have hcase : r5 = 0 ∨ r5 = 1 ∨ r5 = 2 := by omega
          rcases hcase with rfl | rfl | rfl
          · go_wp2_with (at_builtin; go_must (refine wpList_append_row rfl _ _ rfl el_int rfl (Row.alloc (H15.out) _) _ _ [(t.pool.length : Int)] rfl (Rd.lit (by simp) rfl) (by simp [maxLen]; omega) (by simp; omega) ?_; intro A6 c6 g6 w6 l6 hl6 hle1 hle2 hrow6 hg6 hgg6; have KX := Loc.carry LX (fun h => by ((repeat (first | with_reducible exact h | with_reducible refine Loc.drew ?_ | with_reducible refine Loc.drewN ?_ _ | with_reducible refine Loc.alloc ?_ _)); done)) hg6 (by omega); have K4 := Loc.carry L4 (fun h => by ((repeat (first | with_reducible exact h | with_reducible refine Loc.drew ?_ | with_reducible refine Loc.drewN ?_ _ | with_reducible refine Loc.alloc ?_ _)); done)) hg6 (by omega); obtain ⟨k0, k1, kf⟩ := KX.two; obtain ⟨j0, j1, jf⟩ := K4.two; have zKX := KX.lt; have zK4 := K4.lt; have hz6 := hg6.size; (try simp at hz6); (try simp at hgg6); (try simp at hle1); (try simp at hle2); obtain ⟨ge, rp6, hpe⟩ := Row.renewT H25.out (Row.grown (Row.alloc H25.out _) hg6 (Ne.symm hgg)) (w6.heap.size + g6 + R + 1); have H6 := Lib.hid hrow6; have H26 := Lib.hid rp6; have hR6 : Rdr w6 63 B R (q + 1 + 1) := Rdr.grown (p := q + 1 + 1) (Rdr.alloc hR5 _) hg6 (by omega) (by omega); have HG6 : Hid (w.grownBy w6 (some R)) := Lib.hid (grownBy_new hg6 (by omega) (grownBy_alloc HG5.out _)); clear rp6 hrow6 hl6))
            refine bodyPost_ret (v := .agg #[.slice A6 l6.length c6, .slice D1 t.pool.length g1]) (by simp [results, Try.results40, go_sem, *]; done) rfl ?_
            exact ⟨_, _, ⟨l6, t.pool⟩, q + 1 + 1, rfl, fun w'' hk => ⟨_, _, rfl, SOwn.rd (SOwn.kept (SOwn.of_rown (D := w.heap.size) (g := g6) (by repeat (first | with_reducible exact H6.out | with_reducible refine Row.drew ?_ | with_reducible refine Row.drewN ?_ _ | with_reducible refine Row.alloc ?_ _ | (with_reducible refine Row.below ?_ (by assumption)) | ((with_reducible refine Row.other ?_ ?_ _); rotate_left; (focus (first | omega | (simp; omega) | (simp; done)))) | ((with_reducible refine Row.far' (by assumption) ?_ ?_); (focus (first | omega | (simp; omega) | (simp; done)))))) (by first | rfl | omega) (by omega)) hk), SOwn.rd (SOwn.kept (SOwn.of_rown (D := w.heap.size) (g := ge) (by repeat (first | with_reducible exact H26.out | with_reducible refine Row.drew ?_ | with_reducible refine Row.drewN ?_ _ | with_reducible refine Row.alloc ?_ _ | (with_reducible refine Row.below ?_ (by assumption)) | ((with_reducible refine Row.other ?_ ?_ _); rotate_left; (focus (first | omega | (simp; omega) | (simp; done)))) | ((with_reducible refine Row.far' (by assumption) ?_ ?_); (focus (first | omega | (simp; omega) | (simp; done)))))) (by first | rfl | omega) (by omega)) hk)⟩, by unfold sizeThin at hsz ⊢; (try simp only); omega, (by ((repeat (first | with_reducible assumption | with_reducible refine Rdr.drew ?_ | with_reducible refine Rdr.drewN ?_ _ | with_reducible refine Rdr.alloc ?_ _ | with_reducible refine Rdr.other ?_ _ _ ?_ ?_ | omega)); done)), by omega, by omega, (by repeat (first | with_reducible exact HG6.out | with_reducible refine grownBy_drew ?_ | with_reducible refine grownBy_drewN ?_ _ | with_reducible refine grownBy_alloc ?_ _ | (with_reducible refine grownBy_below ?_ (by assumption)) | ((with_reducible refine grownBy_set ?_ ?_ _ _); rotate_left; (focus (first | omega | (simp; omega) | (simp; done)))) | ((with_reducible refine grownBy_trans ?_ (by assumption)); done) | ((with_reducible refine grownBy_new (by assumption) ?_ ?_); (focus (first | omega | (simp; omega) | (simp; done))))))⟩
          · go_wp2_with (at_builtin; go_must (refine wpList_append_row rfl _ _ rfl el_int rfl (Row.alloc (H25.out) _) _ _ [(256 : Int)] rfl (Rd.lit (by simp) rfl) (by simp [maxLen]; omega) (by simp; omega) ?_; intro A6 c6 g6 w6 l6 hl6 hle1 hle2 hrow6 hg6 hgg6; have KX := Loc.carry LX (fun h => by ((repeat (first | with_reducible exact h | with_reducible refine Loc.drew ?_ | with_reducible refine Loc.drewN ?_ _ | with_reducible refine Loc.alloc ?_ _)); done)) hg6 (by omega); have K4 := Loc.carry L4 (fun h => by ((repeat (first | with_reducible exact h | with_reducible refine Loc.drew ?_ | with_reducible refine Loc.drewN ?_ _ | with_reducible refine Loc.alloc ?_ _)); done)) hg6 (by omega); obtain ⟨k0, k1, kf⟩ := KX.two; obtain ⟨j0, j1, jf⟩ := K4.two; have zKX := KX.lt; have zK4 := K4.lt; have hz6 := hg6.size; (try simp at hz6); (try simp at hgg6); (try simp at hle1); (try simp at hle2); obtain ⟨ge, rp6, hpe⟩ := Row.renewT H15.out (Row.grown (Row.alloc H15.out _) hg6 hgg) (w6.heap.size + g6 + R + 1); have H6 := Lib.hid hrow6; have H26 := Lib.hid rp6; have hR6 : Rdr w6 63 B R (q + 1 + 1) := Rdr.grown (p := q + 1 + 1) (Rdr.alloc hR5 _) hg6 (by omega) (by omega); have HG6 : Hid (w.grownBy w6 (some R)) := Lib.hid (grownBy_new hg6 (by omega) (grownBy_alloc HG5.out _)); clear rp6 hrow6 hl6))
            refine bodyPost_ret (v := .agg #[.slice D0 t.whr.length g0, .slice A6 l6.length c6]) (by simp [results, Try.results40, go_sem, *]; done) rfl ?_
            exact ⟨_, _, ⟨t.whr, l6⟩, q + 1 + 1, rfl, fun w'' hk => ⟨_, _, rfl, SOwn.rd (SOwn.kept (SOwn.of_rown (D := w.heap.size) (g := ge) (by repeat (first | with_reducible exact H26.out | with_reducible refine Row.drew ?_ | with_reducible refine Row.drewN ?_ _ | with_reducible refine Row.alloc ?_ _ | (with_reducible refine Row.below ?_ (by assumption)) | ((with_reducible refine Row.other ?_ ?_ _); rotate_left; (focus (first | omega | (simp; omega) | (simp; done)))) | ((with_reducible refine Row.far' (by assumption) ?_ ?_); (focus (first | omega | (simp; omega) | (simp; done)))))) (by first | rfl | omega) (by omega)) hk), SOwn.rd (SOwn.kept (SOwn.of_rown (D := w.heap.size) (g := g6) (by repeat (first | with_reducible exact H6.out | with_reducible refine Row.drew ?_ | with_reducible refine Row.drewN ?_ _ | with_reducible refine Row.alloc ?_ _ | (with_reducible refine Row.below ?_ (by assumption)) | ((with_reducible refine Row.other ?_ ?_ _); rotate_left; (focus (first | omega | (simp; omega) | (simp; done)))) | ((with_reducible refine Row.far' (by assumption) ?_ ?_); (focus (first | omega | (simp; omega) | (simp; done)))))) (by first | rfl | omega) (by omega)) hk)⟩, by unfold sizeThin at hsz ⊢; (try simp only); omega, (by ((repeat (first | with_reducible assumption | with_reducible refine Rdr.drew ?_ | with_reducible refine Rdr.drewN ?_ _ | with_reducible refine Rdr.alloc ?_ _ | with_reducible refine Rdr.other ?_ _ _ ?_ ?_ | omega)); done)), by omega, by omega, (by repeat (first | with_reducible exact HG6.out | with_reducible refine grownBy_drew ?_ | with_reducible refine grownBy_drewN ?_ _ | with_reducible refine grownBy_alloc ?_ _ | (with_reducible refine grownBy_below ?_ (by assumption)) | ((with_reducible refine grownBy_set ?_ ?_ _ _); rotate_left; (focus (first | omega | (simp; omega) | (simp; done)))) | ((with_reducible refine grownBy_trans ?_ (by assumption)); done) | ((with_reducible refine grownBy_new (by assumption) ?_ ?_); (focus (first | omega | (simp; omega) | (simp; done))))))⟩
          · go_wp2_with (at_builtin; first | ((refine wpList_append_row rfl (.tmp 52) (.tmp 53) rfl el_int rfl (Row.alloc (H25.out) _) _ _ [(0 : Int)] rfl (Rd.lit (by simp) rfl) (by simp [maxLen]; omega) (by simp; omega) ?_); go_must (intro A6 c6 g6 w6 l6 hl6 hle1 hle2 hrow6 hg6 hgg6; have KX := Loc.carry LX (fun h => by ((repeat (first | with_reducible exact h | with_reducible refine Loc.drew ?_ | with_reducible refine Loc.drewN ?_ _ | with_reducible refine Loc.alloc ?_ _)); done)) hg6 (by omega); have K4 := Loc.carry L4 (fun h => by ((repeat (first | with_reducible exact h | with_reducible refine Loc.drew ?_ | with_reducible refine Loc.drewN ?_ _ | with_reducible refine Loc.alloc ?_ _)); done)) hg6 (by omega); obtain ⟨k0, k1, kf⟩ := KX.two; obtain ⟨j0, j1, jf⟩ := K4.two; have zKX := KX.lt; have zK4 := K4.lt; have hz6 := hg6.size; (try simp at hz6); (try simp at hgg6); (try simp at hle1); (try simp at hle2); obtain ⟨ge, rp6, hpe⟩ := Row.renewT H15.out (Row.grown (Row.alloc H15.out _) hg6 hgg) (w6.heap.size + g6 + R + 1); have hg6l := hrow6.lt (by omega); have H6 := Lib.hid hrow6; have H26 := Lib.hid rp6; have hR6 : Rdr w6 63 B R (q + 1 + 1) := Rdr.grown (p := q + 1 + 1) (Rdr.alloc hR5 _) hg6 (by omega) (by omega); have HG6 : Hid (w.grownBy w6 (some R)) := Lib.hid (grownBy_new hg6 (by omega) (grownBy_alloc HG5.out _)); have hwx := IntWalk.i64_in ((l6.length : Int) - 1) (by omega); clear rp6 hrow6 hl6)) | ((refine wpList_append_row rfl (.tmp 57) (.tmp 66) rfl el_int rfl (Row.alloc (Row.other H26.out (p := ⟨w3.heap.size, 1, none⟩) (by simp only; omega) _) _) _ _ [((l6.length : Int) - 1), ((l6.length : Int) - 1)] rfl (Rd.lit (by simp) rfl) (by simp [maxLen]; omega) (by simp; omega) ?_); go_must (intro A7 c7 g7 w7 l7 hl7 hle3 hle4 hrow7 hg7 hgg7; have KXs : Loc (w6.setCell ⟨w3.heap.size, 1, none⟩ (.slice A6 l6.length c6)) w3.heap.size [.slice D0 t.whr.length g0, .slice A6 l6.length c6] := (by simpa using KX.set 1 (.slice A6 l6.length c6)); have KX7 := Loc.carry KXs (fun h => by ((repeat (first | with_reducible exact h | with_reducible refine Loc.drew ?_ | with_reducible refine Loc.drewN ?_ _ | with_reducible refine Loc.alloc ?_ _)); done)) hg7 (by omega); have K47 := Loc.carry (Loc.other' (p := ⟨w3.heap.size, 1, none⟩) (by simp only; omega) K4 (.slice A6 l6.length c6)) (fun h => by ((repeat (first | with_reducible exact h | with_reducible refine Loc.drew ?_ | with_reducible refine Loc.drewN ?_ _ | with_reducible refine Loc.alloc ?_ _)); done)) hg7 (by omega); obtain ⟨m0, m1, mf⟩ := KX7.two; obtain ⟨n0, n1, nf⟩ := K47.two; have zKX7 := KX7.lt; have zK47 := K47.lt; have hz7 := hg7.size; (try simp at hz7); (try simp at hgg7); (try simp at hle3); (try simp at hle4); have H7 := Lib.hid hrow7; have H67 := Lib.hid (Row.grown (Row.alloc (Row.other H6.out (p := ⟨w3.heap.size, 1, none⟩) (by simp only; omega) (.slice A6 l6.length c6)) _) hg7 (by omega)); have hR7 : Rdr w7 63 B R (q + 1 + 1) := Rdr.grown (p := q + 1 + 1) (Rdr.alloc (Rdr.other hR6 _ _ (by omega) ne3) _) hg7 (by omega) (by omega); have HG7 : Hid (w.grownBy w7 (some R)) := Lib.hid (grownBy_new hg7 (by omega) (grownBy_alloc (grownBy_set HG6.out (by omega) _ _) _)); clear hrow7 hl7)))
            refine bodyPost_ret (v := .agg #[.slice A7 l7.length c7, .slice A6 l6.length c6]) (by simp [results, Try.results40, go_sem, *]; done) rfl ?_
            exact ⟨_, _, ⟨l7, l6⟩, q + 1 + 1, rfl, fun w'' hk => ⟨_, _, rfl, SOwn.rd (SOwn.kept (SOwn.of_rown (D := w.heap.size) (g := g7) (by repeat (first | with_reducible exact H7.out | with_reducible refine Row.drew ?_ | with_reducible refine Row.drewN ?_ _ | with_reducible refine Row.alloc ?_ _ | (with_reducible refine Row.below ?_ (by assumption)) | ((with_reducible refine Row.other ?_ ?_ _); rotate_left; (focus (first | omega | (simp; omega) | (simp; done)))) | ((with_reducible refine Row.far' (by assumption) ?_ ?_); (focus (first | omega | (simp; omega) | (simp; done)))))) (by first | rfl | omega) (by omega)) hk), SOwn.rd (SOwn.kept (SOwn.of_rown (D := w.heap.size) (g := g6) (by repeat (first | with_reducible exact H67.out | with_reducible refine Row.drew ?_ | with_reducible refine Row.drewN ?_ _ | with_reducible refine Row.alloc ?_ _ | (with_reducible refine Row.below ?_ (by assumption)) | ((with_reducible refine Row.other ?_ ?_ _); rotate_left; (focus (first | omega | (simp; omega) | (simp; done)))) | ((with_reducible refine Row.far' (by assumption) ?_ ?_); (focus (first | omega | (simp; omega) | (simp; done)))))) (by first | rfl | omega) (by omega)) hk)⟩, by unfold sizeThin at hsz ⊢; (try simp only); omega, (by ((repeat (first | with_reducible assumption | with_reducible refine Rdr.drew ?_ | with_reducible refine Rdr.drewN ?_ _ | with_reducible refine Rdr.alloc ?_ _ | with_reducible refine Rdr.other ?_ _ _ ?_ ?_ | omega)); done)), by omega, by omega, (by repeat (first | with_reducible exact HG7.out | with_reducible refine grownBy_drew ?_ | with_reducible refine grownBy_drewN ?_ _ | with_reducible refine grownBy_alloc ?_ _ | (with_reducible refine grownBy_below ?_ (by assumption)) | ((with_reducible refine grownBy_set ?_ ?_ _ _); rotate_left; (focus (first | omega | (simp; omega) | (simp; done)))) | ((with_reducible refine grownBy_trans ?_ (by assumption)); done) | ((with_reducible refine grownBy_new (by assumption) ?_ ?_); (focus (first | omega | (simp; omega) | (simp; done))))))⟩
    · obtain ⟨g, g', row, row', hgB, hgB', hgX, hgX', hgg⟩ := thin_rows HO.out hBC hBsC
      have H1 := Lib.hid row
      have H2 := Lib.hid row'
      clear row row'
      go_wp2_with fail
      refine (odd_any B R q n _ (by ((repeat (first | with_reducible assumption | with_reducible refine Rdr.drew ?_ | with_reducible refine Rdr.drewN ?_ _ | with_reducible refine Rdr.alloc ?_ _ | with_reducible refine Rdr.other ?_ _ _ ?_ ?_ | omega)); done)) (by omega) (by omega) (by omega) (by omega)).mono ?_
      rintro e w4 ⟨r4, rfl, hR4, hg4⟩
      replace hR4 := hR4.to (p' := q + 1) (by omega)
      have hz4 := hg4.size
      have hlt4 := hR4.lt
      replace LX := Loc.carry LX (fun h => by ((repeat (first | with_reducible exact h | with_reducible refine Loc.drew ?_ | with_reducible refine Loc.drewN ?_ _ | with_reducible refine Loc.alloc ?_ _)); done)) hg4 (by omega)
      replace L4 := Loc.carry L4 (fun h => by ((repeat (first | with_reducible exact h | with_reducible refine Loc.drew ?_ | with_reducible refine Loc.drewN ?_ _ | with_reducible refine Loc.alloc ?_ _)); done)) hg4 (by omega)
      have H14 := Lib.hid (Row.grown H1.out hg4 (by omega))
      have H24 := Lib.hid (Row.grown H2.out hg4 (by omega))
      have HG4 := Lib.hid (grownBy_trans HG.out hg4)
      have zX4 := LX.lt
      have z44 := L4.lt
      clear hg4 s0 s1 sf HO HG H1 H2
      cases r4
      · obtain ⟨s0, s1, sf⟩ := LX.two
        obtain ⟨v0, v1, vf⟩ := L4.two
        go_wp2
        refine bodyPost_ret (v := .agg #[.slice D0 t.whr.length g0, .slice D1 t.pool.length g1]) (by simp [results, Try.results40, go_sem, *]; done) rfl ?_
        exact ⟨_, _, t, q + 1, rfl, fun w'' hk => ⟨_, _, rfl, SOwn.rd (SOwn.kept (SOwn.of_rown (D := w.heap.size) (g := g) (by repeat (first | with_reducible exact H14.out | with_reducible refine Row.drew ?_ | with_reducible refine Row.drewN ?_ _ | with_reducible refine Row.alloc ?_ _ | (with_reducible refine Row.below ?_ (by assumption)) | ((with_reducible refine Row.other ?_ ?_ _); rotate_left; (focus (first | omega | (simp; omega) | (simp; done)))) | ((with_reducible refine Row.far' (by assumption) ?_ ?_); (focus (first | omega | (simp; omega) | (simp; done)))))) (by first | rfl | omega) (by omega)) hk), SOwn.rd (SOwn.kept (SOwn.of_rown (D := w.heap.size) (g := g') (by repeat (first | with_reducible exact H24.out | with_reducible refine Row.drew ?_ | with_reducible refine Row.drewN ?_ _ | with_reducible refine Row.alloc ?_ _ | (with_reducible refine Row.below ?_ (by assumption)) | ((with_reducible refine Row.other ?_ ?_ _); rotate_left; (focus (first | omega | (simp; omega) | (simp; done)))) | ((with_reducible refine Row.far' (by assumption) ?_ ?_); (focus (first | omega | (simp; omega) | (simp; done)))))) (by first | rfl | omega) (by omega)) hk)⟩, by unfold sizeThin at hsz ⊢; (try simp only); omega, (by ((repeat (first | with_reducible assumption | with_reducible refine Rdr.drew ?_ | with_reducible refine Rdr.drewN ?_ _ | with_reducible refine Rdr.alloc ?_ _ | with_reducible refine Rdr.other ?_ _ _ ?_ ?_ | omega)); done)), by omega, by omega, (by repeat (first | with_reducible exact HG4.out | with_reducible refine grownBy_drew ?_ | with_reducible refine grownBy_drewN ?_ _ | with_reducible refine grownBy_alloc ?_ _ | (with_reducible refine grownBy_below ?_ (by assumption)) | ((with_reducible refine grownBy_set ?_ ?_ _ _); rotate_left; (focus (first | omega | (simp; omega) | (simp; done)))) | ((with_reducible refine grownBy_trans ?_ (by assumption)); done) | ((with_reducible refine grownBy_new (by assumption) ?_ ?_); (focus (first | omega | (simp; omega) | (simp; done))))))⟩
      · go_wp2_with fail
        refine (pick_any B R (q + 1) (3) _ (by ((repeat (first | with_reducible assumption | with_reducible refine Rdr.drew ?_ | with_reducible refine Rdr.drewN ?_ _ | with_reducible refine Rdr.alloc ?_ _ | with_reducible refine Rdr.other ?_ _ _ ?_ ?_ | omega)); done)) (by omega) (by omega) (by omega)).mono ?_
        rintro e w5 ⟨r5, rfl, a5, b5, hR5, hg5⟩
        have b5' := b5 (by omega)
        clear b5
        replace hR5 := hR5.to (p' := q + 1 + 1) (by omega)
        have hz5 := hg5.size
        (try simp at hz5)
        have hlt5 := hR5.lt
        have ne5 : w5.heap.size ≠ R := by omega
        replace LX := Loc.carry LX (fun h => by ((repeat (first | with_reducible exact h | with_reducible refine Loc.drew ?_ | with_reducible refine Loc.drewN ?_ _ | with_reducible refine Loc.alloc ?_ _)); done)) hg5 (by omega)
        replace L4 := Loc.carry L4 (fun h => by ((repeat (first | with_reducible exact h | with_reducible refine Loc.drew ?_ | with_reducible refine Loc.drewN ?_ _ | with_reducible refine Loc.alloc ?_ _)); done)) hg5 (by omega)
        have H15 := Lib.hid (Row.grown H14.out hg5 (by omega))
        have H25 := Lib.hid (Row.grown H24.out hg5 (by omega))
        have HG5 := Lib.hid (grownBy_trans HG4.out hg5)
        have zX5 := LX.lt
        have z45 := L4.lt
        clear hg5 HG4 zX4 z44 H14 H24
        obtain ⟨s0, s1, sf⟩ := LX.two
        obtain ⟨v0, v1, vf⟩ := L4.two
        have hcase : r5 = 0 ∨ r5 = 1 ∨ r5 = 2 := by omega
        rcases hcase with rfl | rfl | rfl
        · go_wp2_with (at_builtin; go_must (refine wpList_append_row rfl _ _ rfl el_int rfl (Row.alloc (H15.out) _) _ _ [(t.pool.length : Int)] rfl (Rd.lit (by simp) rfl) (by simp [maxLen]; omega) (by simp; omega) ?_; intro A6 c6 g6 w6 l6 hl6 hle1 hle2 hrow6 hg6 hgg6; have KX := Loc.carry LX (fun h => by ((repeat (first | with_reducible exact h | with_reducible refine Loc.drew ?_ | with_reducible refine Loc.drewN ?_ _ | with_reducible refine Loc.alloc ?_ _)); done)) hg6 (by omega); have K4 := Loc.carry L4 (fun h => by ((repeat (first | with_reducible exact h | with_reducible refine Loc.drew ?_ | with_reducible refine Loc.drewN ?_ _ | with_reducible refine Loc.alloc ?_ _)); done)) hg6 (by omega); obtain ⟨k0, k1, kf⟩ := KX.two; obtain ⟨j0, j1, jf⟩ := K4.two; have zKX := KX.lt; have zK4 := K4.lt; have hz6 := hg6.size; (try simp at hz6); (try simp at hgg6); (try simp at hle1); (try simp at hle2); obtain ⟨ge, rp6, hpe⟩ := Row.renewT H25.out (Row.grown (Row.alloc H25.out _) hg6 (Ne.symm hgg)) (w6.heap.size + g6 + R + 1); have H6 := Lib.hid hrow6; have H26 := Lib.hid rp6; have hR6 : Rdr w6 63 B R (q + 1 + 1) := Rdr.grown (p := q + 1 + 1) (Rdr.alloc hR5 _) hg6 (by omega) (by omega); have HG6 : Hid (w.grownBy w6 (some R)) := Lib.hid (grownBy_new hg6 (by omega) (grownBy_alloc HG5.out _)); clear rp6 hrow6 hl6))
          refine bodyPost_ret (v := .agg #[.slice A6 l6.length c6, .slice D1 t.pool.length g1]) (by simp [results, Try.results40, go_sem, *]; done) rfl ?_
          exact ⟨_, _, ⟨l6, t.pool⟩, q + 1 + 1, rfl, fun w'' hk => ⟨_, _, rfl, SOwn.rd (SOwn.kept (SOwn.of_rown (D := w.heap.size) (g := g6) (by repeat (first | with_reducible exact H6.out | with_reducible refine Row.drew ?_ | with_reducible refine Row.drewN ?_ _ | with_reducible refine Row.alloc ?_ _ | (with_reducible refine Row.below ?_ (by assumption)) | ((with_reducible refine Row.other ?_ ?_ _); rotate_left; (focus (first | omega | (simp; omega) | (simp; done)))) | ((with_reducible refine Row.far' (by assumption) ?_ ?_); (focus (first | omega | (simp; omega) | (simp; done)))))) (by first | rfl | omega) (by omega)) hk), SOwn.rd (SOwn.kept (SOwn.of_rown (D := w.heap.size) (g := ge) (by repeat (first | with_reducible exact H26.out | with_reducible refine Row.drew ?_ | with_reducible refine Row.drewN ?_ _ | with_reducible refine Row.alloc ?_ _ | (with_reducible refine Row.below ?_ (by assumption)) | ((with_reducible refine Row.other ?_ ?_ _); rotate_left; (focus (first | omega | (simp; omega) | (simp; done)))) | ((with_reducible refine Row.far' (by assumption) ?_ ?_); (focus (first | omega | (simp; omega) | (simp; done)))))) (by first | rfl | omega) (by omega)) hk)⟩, by unfold sizeThin at hsz ⊢; (try simp only); omega, (by ((repeat (first | with_reducible assumption | with_reducible refine Rdr.drew ?_ | with_reducible refine Rdr.drewN ?_ _ | with_reducible refine Rdr.alloc ?_ _ | with_reducible refine Rdr.other ?_ _ _ ?_ ?_ | omega)); done)), by omega, by omega, (by repeat (first | with_reducible exact HG6.out | with_reducible refine grownBy_drew ?_ | with_reducible refine grownBy_drewN ?_ _ | with_reducible refine grownBy_alloc ?_ _ | (with_reducible refine grownBy_below ?_ (by assumption)) | ((with_reducible refine grownBy_set ?_ ?_ _ _); rotate_left; (focus (first | omega | (simp; omega) | (simp; done)))) | ((with_reducible refine grownBy_trans ?_ (by assumption)); done) | ((with_reducible refine grownBy_new (by assumption) ?_ ?_); (focus (first | omega | (simp; omega) | (simp; done))))))⟩
        · go_wp2_with (at_builtin; go_must (refine wpList_append_row rfl _ _ rfl el_int rfl (Row.alloc (H25.out) _) _ _ [(256 : Int)] rfl (Rd.lit (by simp) rfl) (by simp [maxLen]; omega) (by simp; omega) ?_; intro A6 c6 g6 w6 l6 hl6 hle1 hle2 hrow6 hg6 hgg6; have KX := Loc.carry LX (fun h => by ((repeat (first | with_reducible exact h | with_reducible refine Loc.drew ?_ | with_reducible refine Loc.drewN ?_ _ | with_reducible refine Loc.alloc ?_ _)); done)) hg6 (by omega); have K4 := Loc.carry L4 (fun h => by ((repeat (first | with_reducible exact h | with_reducible refine Loc.drew ?_ | with_reducible refine Loc.drewN ?_ _ | with_reducible refine Loc.alloc ?_ _)); done)) hg6 (by omega); obtain ⟨k0, k1, kf⟩ := KX.two; obtain ⟨j0, j1, jf⟩ := K4.two; have zKX := KX.lt; have zK4 := K4.lt; have hz6 := hg6.size; (try simp at hz6); (try simp at hgg6); (try simp at hle1); (try simp at hle2); obtain ⟨ge, rp6, hpe⟩ := Row.renewT H15.out (Row.grown (Row.alloc H15.out _) hg6 hgg) (w6.heap.size + g6 + R + 1); have H6 := Lib.hid hrow6; have H26 := Lib.hid rp6; have hR6 : Rdr w6 63 B R (q + 1 + 1) := Rdr.grown (p := q + 1 + 1) (Rdr.alloc hR5 _) hg6 (by omega) (by omega); have HG6 : Hid (w.grownBy w6 (some R)) := Lib.hid (grownBy_new hg6 (by omega) (grownBy_alloc HG5.out _)); clear rp6 hrow6 hl6))
          refine bodyPost_ret (v := .agg #[.slice D0 t.whr.length g0, .slice A6 l6.length c6]) (by simp [results, Try.results40, go_sem, *]; done) rfl ?_
          exact ⟨_, _, ⟨t.whr, l6⟩, q + 1 + 1, rfl, fun w'' hk => ⟨_, _, rfl, SOwn.rd (SOwn.kept (SOwn.of_rown (D := w.heap.size) (g := ge) (by repeat (first | with_reducible exact H26.out | with_reducible refine Row.drew ?_ | with_reducible refine Row.drewN ?_ _ | with_reducible refine Row.alloc ?_ _ | (with_reducible refine Row.below ?_ (by assumption)) | ((with_reducible refine Row.other ?_ ?_ _); rotate_left; (focus (first | omega | (simp; omega) | (simp; done)))) | ((with_reducible refine Row.far' (by assumption) ?_ ?_); (focus (first | omega | (simp; omega) | (simp; done)))))) (by first | rfl | omega) (by omega)) hk), SOwn.rd (SOwn.kept (SOwn.of_rown (D := w.heap.size) (g := g6) (by repeat (first | with_reducible exact H6.out | with_reducible refine Row.drew ?_ | with_reducible refine Row.drewN ?_ _ | with_reducible refine Row.alloc ?_ _ | (with_reducible refine Row.below ?_ (by assumption)) | ((with_reducible refine Row.other ?_ ?_ _); rotate_left; (focus (first | omega | (simp; omega) | (simp; done)))) | ((with_reducible refine Row.far' (by assumption) ?_ ?_); (focus (first | omega | (simp; omega) | (simp; done)))))) (by first | rfl | omega) (by omega)) hk)⟩, by unfold sizeThin at hsz ⊢; (try simp only); omega, (by ((repeat (first | with_reducible assumption | with_reducible refine Rdr.drew ?_ | with_reducible refine Rdr.drewN ?_ _ | with_reducible refine Rdr.alloc ?_ _ | with_reducible refine Rdr.other ?_ _ _ ?_ ?_ | omega)); done)), by omega, by omega, (by repeat (first | with_reducible exact HG6.out | with_reducible refine grownBy_drew ?_ | with_reducible refine grownBy_drewN ?_ _ | with_reducible refine grownBy_alloc ?_ _ | (with_reducible refine grownBy_below ?_ (by assumption)) | ((with_reducible refine grownBy_set ?_ ?_ _ _); rotate_left; (focus (first | omega | (simp; omega) | (simp; done)))) | ((with_reducible refine grownBy_trans ?_ (by assumption)); done) | ((with_reducible refine grownBy_new (by assumption) ?_ ?_); (focus (first | omega | (simp; omega) | (simp; done))))))⟩
        · go_wp2_with (at_builtin; first | ((refine wpList_append_row rfl (.tmp 52) (.tmp 53) rfl el_int rfl (Row.alloc (H25.out) _) _ _ [(0 : Int)] rfl (Rd.lit (by simp) rfl) (by simp [maxLen]; omega) (by simp; omega) ?_); go_must (intro A6 c6 g6 w6 l6 hl6 hle1 hle2 hrow6 hg6 hgg6; have KX := Loc.carry LX (fun h => by ((repeat (first | with_reducible exact h | with_reducible refine Loc.drew ?_ | with_reducible refine Loc.drewN ?_ _ | with_reducible refine Loc.alloc ?_ _)); done)) hg6 (by omega); have K4 := Loc.carry L4 (fun h => by ((repeat (first | with_reducible exact h | with_reducible refine Loc.drew ?_ | with_reducible refine Loc.drewN ?_ _ | with_reducible refine Loc.alloc ?_ _)); done)) hg6 (by omega); obtain ⟨k0, k1, kf⟩ := KX.two; obtain ⟨j0, j1, jf⟩ := K4.two; have zKX := KX.lt; have zK4 := K4.lt; have hz6 := hg6.size; (try simp at hz6); (try simp at hgg6); (try simp at hle1); (try simp at hle2); obtain ⟨ge, rp6, hpe⟩ := Row.renewT H15.out (Row.grown (Row.alloc H15.out _) hg6 hgg) (w6.heap.size + g6 + R + 1); have hg6l := hrow6.lt (by omega); have H6 := Lib.hid hrow6; have H26 := Lib.hid rp6; have hR6 : Rdr w6 63 B R (q + 1 + 1) := Rdr.grown (p := q + 1 + 1) (Rdr.alloc hR5 _) hg6 (by omega) (by omega); have HG6 : Hid (w.grownBy w6 (some R)) := Lib.hid (grownBy_new hg6 (by omega) (grownBy_alloc HG5.out _)); have hwx := IntWalk.i64_in ((l6.length : Int) - 1) (by omega); clear rp6 hrow6 hl6)) | ((refine wpList_append_row rfl (.tmp 57) (.tmp 66) rfl el_int rfl (Row.alloc (Row.other H26.out (p := ⟨w3.heap.size, 1, none⟩) (by simp only; omega) _) _) _ _ [((l6.length : Int) - 1), ((l6.length : Int) - 1)] rfl (Rd.lit (by simp) rfl) (by simp [maxLen]; omega) (by simp; omega) ?_); go_must (intro A7 c7 g7 w7 l7 hl7 hle3 hle4 hrow7 hg7 hgg7; have KXs : Loc (w6.setCell ⟨w3.heap.size, 1, none⟩ (.slice A6 l6.length c6)) w3.heap.size [.slice D0 t.whr.length g0, .slice A6 l6.length c6] := (by simpa using KX.set 1 (.slice A6 l6.length c6)); have KX7 := Loc.carry KXs (fun h => by ((repeat (first | with_reducible exact h | with_reducible refine Loc.drew ?_ | with_reducible refine Loc.drewN ?_ _ | with_reducible refine Loc.alloc ?_ _)); done)) hg7 (by omega); have K47 := Loc.carry (Loc.other' (p := ⟨w3.heap.size, 1, none⟩) (by simp only; omega) K4 (.slice A6 l6.length c6)) (fun h => by ((repeat (first | with_reducible exact h | with_reducible refine Loc.drew ?_ | with_reducible refine Loc.drewN ?_ _ | with_reducible refine Loc.alloc ?_ _)); done)) hg7 (by omega); obtain ⟨m0, m1, mf⟩ := KX7.two; obtain ⟨n0, n1, nf⟩ := K47.two; have zKX7 := KX7.lt; have zK47 := K47.lt; have hz7 := hg7.size; (try simp at hz7); (try simp at hgg7); (try simp at hle3); (try simp at hle4); have H7 := Lib.hid hrow7; have H67 := Lib.hid (Row.grown (Row.alloc (Row.other H6.out (p := ⟨w3.heap.size, 1, none⟩) (by simp only; omega) (.slice A6 l6.length c6)) _) hg7 (by omega)); have hR7 : Rdr w7 63 B R (q + 1 + 1) := Rdr.grown (p := q + 1 + 1) (Rdr.alloc (Rdr.other hR6 _ _ (by omega) ne3) _) hg7 (by omega) (by omega); have HG7 : Hid (w.grownBy w7 (some R)) := Lib.hid (grownBy_new hg7 (by omega) (grownBy_alloc (grownBy_set HG6.out (by omega) _ _) _)); clear hrow7 hl7)))
          refine bodyPost_ret (v := .agg #[.slice A7 l7.length c7, .slice A6 l6.length c6]) (by simp [results, Try.results40, go_sem, *]; done) rfl ?_
          exact ⟨_, _, ⟨l7, l6⟩, q + 1 + 1, rfl, fun w'' hk => ⟨_, _, rfl, SOwn.rd (SOwn.kept (SOwn.of_rown (D := w.heap.size) (g := g7) (by repeat (first | with_reducible exact H7.out | with_reducible refine Row.drew ?_ | with_reducible refine Row.drewN ?_ _ | with_reducible refine Row.alloc ?_ _ | (with_reducible refine Row.below ?_ (by assumption)) | ((with_reducible refine Row.other ?_ ?_ _); rotate_left; (focus (first | omega | (simp; omega) | (simp; done)))) | ((with_reducible refine Row.far' (by assumption) ?_ ?_); (focus (first | omega | (simp; omega) | (simp; done)))))) (by first | rfl | omega) (by omega)) hk), SOwn.rd (SOwn.kept (SOwn.of_rown (D := w.heap.size) (g := g6) (by repeat (first | with_reducible exact H67.out | with_reducible refine Row.drew ?_ | with_reducible refine Row.drewN ?_ _ | with_reducible refine Row.alloc ?_ _ | (with_reducible refine Row.below ?_ (by assumption)) | ((with_reducible refine Row.other ?_ ?_ _); rotate_left; (focus (first | omega | (simp; omega) | (simp; done)))) | ((with_reducible refine Row.far' (by assumption) ?_ ?_); (focus (first | omega | (simp; omega) | (simp; done)))))) (by first | rfl | omega) (by omega)) hk)⟩, by unfold sizeThin at hsz ⊢; (try simp only); omega, (by ((repeat (first | with_reducible assumption | with_reducible refine Rdr.drew ?_ | with_reducible refine Rdr.drewN ?_ _ | with_reducible refine Rdr.alloc ?_ _ | with_reducible refine Rdr.other ?_ _ _ ?_ ?_ | omega)); done)), by omega, by omega, (by repeat (first | with_reducible exact HG7.out | with_reducible refine grownBy_drew ?_ | with_reducible refine grownBy_drewN ?_ _ | with_reducible refine grownBy_alloc ?_ _ | (with_reducible refine grownBy_below ?_ (by assumption)) | ((with_reducible refine grownBy_set ?_ ?_ _ _); rotate_left; (focus (first | omega | (simp; omega) | (simp; done)))) | ((with_reducible refine grownBy_trans ?_ (by assumption)); done) | ((with_reducible refine grownBy_new (by assumption) ?_ ?_); (focus (first | omega | (simp; omega) | (simp; done))))))⟩
end Go.Proofs.Ytkejdgegkbfofaa
