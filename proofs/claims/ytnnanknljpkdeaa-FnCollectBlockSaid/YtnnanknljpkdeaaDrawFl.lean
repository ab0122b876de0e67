/-
  What the draw of a flash memory gives. Conditions: the count of draws stays below 10^9.
-/
import Derived.Test.YtnnanknljpkdeaaBase
import Derived.Test.YtnnanknljpkdeaaNum
import Derived.Test.YtnnanknljpkdeaaInts
import Derived.Test.YtnnanknljpkdeaaApp
import Derived.Test.YtnnanknljpkdeaaIntsW
import Derived.Test.YtnnanknljpkdeaaLib
import Derived.Test.YtnnanknljpkdeaaSpares
import Derived.Test.YtnnanknljpkdeaaOwn
import Derived.Test.YtnnanknljpkdeaaPage
import Derived.Test.YtnnanknljpkdeaaFlash
import Derived.Test.YtnnanknljpkdeaaFlashM
import Derived.Test.YtnnanknljpkdeaaFlashC
import Derived.Test.YtnnanknljpkdeaaFlashD
import Derived.Test.YtnnanknljpkdeaaFlashV
import Derived.Test.YtnnanknljpkdeaaThinC
import Derived.Test.YtnnanknljpkdeaaFlashW
import Derived.Test.YtnnanknljpkdeaaFlashN
import Derived.Test.YtnnanknljpkdeaaFlashX
import Derived.Test.YtnnanknljpkdeaaFlashY
import Derived.Test.YtnnanknljpkdeaaFlashZ
import Derived.Test.YtnnanknljpkdeaaFlashCB
import Derived.Test.YtnnanknljpkdeaaFlashWB
import Derived.Test.YtnnanknljpkdeaaFlashP
import Derived.Test.YtnnanknljpkdeaaDraw
import Derived.Test.YtnnanknljpkdeaaDrawK
import Derived.Test.YtnnanknljpkdeaaDrawD
import Derived.Test.YtnnanknljpkdeaaNewP
import Derived.Test.YtnnanknljpkdeaaKept
import Derived.IntWalk
namespace Go.Proofs.Ytnnanknljpkdeaa
open Go.RowKit
theorem FlashOwn.grown1 {B C R : Nat} {w w' : World} {xs : List Value} {f : Fl} (h : FlashOwn B w C xs f) (hg : w.grownBy w' (some R)) (hR : R < B) : FlashOwn B w' C xs f := h.gin (GIn.of_grown hg (Nat.le_refl R) (Nat.lt_succ_self R)) (.inr hR)
theorem FlashOwn.kept {B C : Nat} {w w' : World} {xs : List Value} {f : Fl} (h : FlashOwn B w C xs f) (hk : Kept B w w') : FlashOwn B w' C xs f := by
  obtain ⟨u, v, h1, h2, h3, h4⟩ := h
  exact ⟨u, v, h1, h2.kept hk, h3.kept hk, h4⟩
/-- A drawn flash memory: it may be read now and as long as the reader alone goes on. -/
def DrawnFlash (w : World) (B R : Nat) (p : Int) (e : Ending) (w' : World) : Prop :=
  ∃ y0 y1 f p', e = .returned (.agg #[y0, y1]) ∧ (∀ w'', Kept w.heap.size w' w'' → FlashRd w'' [y0, y1] f) ∧ f.pages.length ≤ 16 ∧ f.erases.length ≤ 4 ∧ (∀ x ∈ f.erases, 0 ≤ x ∧ x ≤ 40) ∧ Rdr w' 82 B R p' ∧ p ≤ p' ∧ p' ≤ p + 200 ∧ w.grownBy w' (some R)
structure Fsm (n k : Int) (f : Fl) : Prop where
  ok : FlashOk f
  ers : (f.erases.length : Int) = n
  wear : wearN f + k ≤ 40
theorem Fsm.small {n k : Int} {f : Fl} (h : Fsm n k f) (hk : 0 ≤ k) : ∀ x ∈ f.erases, 0 ≤ x ∧ x ≤ 40 := fun x hx => by
  have h1 := mem_le_sum (fun y hy => (h.ok.ers y hy).1) hx
  have h2 := (h.ok.ers x hx).1
  have h3 := h.wear
  unfold wearN at h3
  exact ⟨h2, by omega⟩
theorem Fsm.write {n k : Int} {f : Fl} (h : Fsm n k f) (hk : 1 ≤ k) {a b : Int} (ha : 0 ≤ a) (ha2 : a < (n - 1) * 4) (hb : 0 ≤ b ∧ b ≤ 255) : Fsm n (k - 1) (writeB f a b) := by
  have hx : inB a 0 (((f.erases.length : Int) - 1) * 4 - 1) = true := inB_true.2 (by rw [h.ers]; omega)
  have e : writeB f a b = writeF f a b := by unfold writeB; rw [writeArgs_yes (flashB_iff.2 h.ok) hx (inB_true.2 hb)]; rfl
  have hers : ∀ x ∈ f.erases, x ≤ 999999 := fun x hx => by have := (h.small (by omega) x hx).2; omega
  have hs := writeF_spec h.ok a b ha
  rw [e]
  refine ⟨h.ok.write_ok hers hx (inB_true.2 hb), by rw [hs.2.2]; exact h.ers, ?_⟩
  have := h.wear
  rcases write_count h.ok a b ha with ⟨_, c, _⟩ | ⟨_, c, _⟩ <;> omega
theorem Fsm.new {r : Int} (h0 : 0 ≤ r) (h1 : r ≤ 2) : Fsm (2 + r) 40 (newF (2 + r)) := by
  obtain ⟨n, hn⟩ := Int.eq_ofNat_of_zero_le (show 0 ≤ 2 + r by omega)
  rw [hn, newF_yes (inB_true.2 (by omega))]
  simp only [Int.toNat_natCast]
  refine ⟨newF_ok (by omega) (by omega), by simp, ?_⟩
  have : ∀ m : Nat, (List.replicate m (0 : Int)).sum = 0 := by
    intro m
    induction m with
    | zero => rfl
    | succ m ih => simp [List.replicate_succ, ih]
  unfold wearN
  rw [this]; omega
set_option linter.unusedSimpArgs false in
set_option maxHeartbeats 8000000 in
theorem l20Flash_any (B R : Nat) (p n : Int) (w : World) (h : Rdr w 82 B R p) (hp0 : 0 ≤ p) (hp1 : p ≤ 100000000) (hn1 : 1 ≤ n) (hn : n ≤ 1000000) :
    Calls Try.prog 61 #[.pointer (some ⟨R, 0, none⟩), .int .i64 n] w (DrawnFlash w B R p) := by
  have hBR := h.ge
  have hRl := h.lt
  have L4 := Loc.new w [.slice none 0 0, .slice none 0 0] 30
  go_enter Try.func61, Try.ntmps61
  go_wp2_with fail
  refine (pick_any B R (p) (3) _ (by ((repeat (first | with_reducible assumption | with_reducible refine Rdr.drew ?_ | with_reducible refine Rdr.drewN ?_ _ | with_reducible refine Rdr.alloc ?_ _ | with_reducible refine Rdr.other ?_ _ _ ?_ ?_ | omega)); done)) (by omega) (by omega) (by omega)).mono ?_
  rintro e w1 ⟨r1, rfl, a1, b1, hR1, hg1⟩
  have b1' := b1 (by omega)
  clear b1
  replace hR1 := hR1.to (p' := p + 1) (by omega)
  have hz1 := hg1.size
  (try simp at hz1)
  have hlt1 := hR1.lt
  have ne1 : w1.heap.size ≠ R := by omega
  replace L4 := Loc.carry L4 (fun h => by ((repeat (first | with_reducible exact h | with_reducible refine Loc.drew ?_ | with_reducible refine Loc.drewN ?_ _ | with_reducible refine Loc.alloc ?_ _)); done)) hg1 (by omega)
  have HG1 := Lib.hid (grownBy_trans (grownBy_alloc (grownBy_refl w (some R)) _) hg1)
  have hw1 := IntWalk.i64_in (2 + r1) (by omega)
  have hf0 := Fsm.new a1 (show r1 ≤ 2 by omega)
  obtain ⟨E, hE⟩ : ∃ E, E = 2 + r1 := ⟨_, rfl⟩
  have hE2 : 2 ≤ E := by omega
  have hE4 : E ≤ 4 := by omega
  rw [← hE] at hw1 hf0
  obtain ⟨f0, hf00⟩ : ∃ f0, f0 = newF E := ⟨_, rfl⟩
  rw [← hf00] at hf0
  have HF00 := Lib.hid hf00
  have hw1' : IntKind.i64.wrap (2 + r1) = E := by rw [← hE]; exact hw1
  clear hg1 hw1 hf00 hE
  go_wp2_with fail
  refine (specNew_c E _).mono ?_
  rw [← HF00.out]
  rintro e w2 ⟨y0, y1, rfl, O2, hb2⟩
  replace L4 := Loc.carryB L4 (fun h => by ((repeat (first | with_reducible exact h | with_reducible refine Loc.drew ?_ | with_reducible refine Loc.drewN ?_ _ | with_reducible refine Loc.alloc ?_ _)); done)) hb2
  have hR2 := hR1.below hb2
  have HG2 := Lib.hid (grownBy_below HG1.out hb2)
  have hz2 := hb2.size
  have hlt2 := hR2.lt
  obtain ⟨Ay, cy, Ay', cy', rfl, rfl⟩ := flashRd_lens (FlashOwn.rd O2)
  have LX := Loc.newAt w2 [.slice Ay f0.pages.length cy, .slice Ay' f0.erases.length cy'] 30 (b := w2.heap.size) rfl
  have HO := Lib.hid (FlashOwn.alloc O2 (.cells #[.slice Ay f0.pages.length cy, .slice Ay' f0.erases.length cy'] 30))
  have HF := Lib.hid hf0
  have hel : (f0.erases.length : Int) = E := hf0.ers
  have HEL := Lib.hid hel
  have hel4 : f0.erases.length ≤ 4 := by omega
  have hel2 : 2 ≤ f0.erases.length := by omega
  have ne2 : w2.heap.size ≠ R := by omega
  have hRB : R < w1.heap.size := by omega
  clear hb2 O2 hel hf0
  go_wp2_with fail
  refine (pick_any B R (p + 1) (8) _ (by ((repeat (first | with_reducible assumption | with_reducible refine Rdr.drew ?_ | with_reducible refine Rdr.drewN ?_ _ | with_reducible refine Rdr.alloc ?_ _ | with_reducible refine Rdr.other ?_ _ _ ?_ ?_ | omega)); done)) (by omega) (by omega) (by omega)).mono ?_
  rintro e w3 ⟨r3, rfl, a3, b3, hR3, hg3⟩
  have b3' := b3 (by omega)
  clear b3
  replace hR3 := hR3.to (p' := p + 1 + 1) (by omega)
  have hz3 := hg3.size
  (try simp at hz3)
  have hlt3 := hR3.lt
  have ne3 : w3.heap.size ≠ R := by omega
  replace L4 := Loc.carry L4 (fun h => by ((repeat (first | with_reducible exact h | with_reducible refine Loc.drew ?_ | with_reducible refine Loc.drewN ?_ _ | with_reducible refine Loc.alloc ?_ _)); done)) hg3 (by omega)
  replace LX := Loc.carry LX (fun h => by ((repeat (first | with_reducible exact h | with_reducible refine Loc.drew ?_ | with_reducible refine Loc.drewN ?_ _ | with_reducible refine Loc.alloc ?_ _)); done)) hg3 (by omega)
  have HG3 := Lib.hid (grownBy_trans (grownBy_alloc HG2.out _) hg3)
  replace HO := Lib.hid (FlashOwn.grown1 HO.out hg3 hRB)
  clear hg3
  go_wp2_with fail
  refine (pick_any B R (p + 1 + 1) (40) _ (by ((repeat (first | with_reducible assumption | with_reducible refine Rdr.drew ?_ | with_reducible refine Rdr.drewN ?_ _ | with_reducible refine Rdr.alloc ?_ _ | with_reducible refine Rdr.other ?_ _ _ ?_ ?_ | omega)); done)) (by omega) (by omega) (by omega)).mono ?_
  rintro e w4 ⟨r4, rfl, a4, b4, hR4, hg4⟩
  have b4' := b4 (by omega)
  clear b4
  replace hR4 := hR4.to (p' := p + 1 + 1 + 1) (by omega)
  have hz4 := hg4.size
  (try simp at hz4)
  have hlt4 := hR4.lt
  have ne4 : w4.heap.size ≠ R := by omega
  replace L4 := Loc.carry L4 (fun h => by ((repeat (first | with_reducible exact h | with_reducible refine Loc.drew ?_ | with_reducible refine Loc.drewN ?_ _ | with_reducible refine Loc.alloc ?_ _)); done)) hg4 (by omega)
  replace LX := Loc.carry LX (fun h => by ((repeat (first | with_reducible exact h | with_reducible refine Loc.drew ?_ | with_reducible refine Loc.drewN ?_ _ | with_reducible refine Loc.alloc ?_ _)); done)) hg4 (by omega)
  have HG4 := Lib.hid (grownBy_trans HG3.out hg4)
  replace HO := Lib.hid (FlashOwn.grown1 HO.out hg4 hRB)
  clear hg4
  have LL := Loc.newAt w4 [.int .i64 r3, .int .i64 r4] 3 (b := w4.heap.size) rfl
  go_wp2_with fail
  refine (pick_any B R (p + 1 + 1 + 1) (2) _ (by ((repeat (first | with_reducible assumption | with_reducible refine Rdr.drew ?_ | with_reducible refine Rdr.drewN ?_ _ | with_reducible refine Rdr.alloc ?_ _ | with_reducible refine Rdr.other ?_ _ _ ?_ ?_ | omega)); done)) (by omega) (by omega) (by omega)).mono ?_
  rintro e w5 ⟨r5, rfl, a5, b5, hR5, hg5⟩
  have b5' := b5 (by omega)
  clear b5
  replace hR5 := hR5.to (p' := p + 1 + 1 + 1 + 1) (by omega)
  have hz5 := hg5.size
  (try simp at hz5)
  have hlt5 := hR5.lt
  have ne5 : w5.heap.size ≠ R := by omega
  replace L4 := Loc.carry L4 (fun h => by ((repeat (first | with_reducible exact h | with_reducible refine Loc.drew ?_ | with_reducible refine Loc.drewN ?_ _ | with_reducible refine Loc.alloc ?_ _)); done)) hg5 (by omega)
  replace LX := Loc.carry LX (fun h => by ((repeat (first | with_reducible exact h | with_reducible refine Loc.drew ?_ | with_reducible refine Loc.drewN ?_ _ | with_reducible refine Loc.alloc ?_ _)); done)) hg5 (by omega)
  replace LL := Loc.carry LL (fun h => by ((repeat (first | with_reducible exact h | with_reducible refine Loc.drew ?_ | with_reducible refine Loc.drewN ?_ _ | with_reducible refine Loc.alloc ?_ _)); done)) hg5 (by omega)
  have HG5 := Lib.hid (grownBy_trans (grownBy_alloc HG4.out _) hg5)
  replace HO := Lib.hid (FlashOwn.grown1 (FlashOwn.alloc HO.out _) hg5 hRB)
  clear hg5
  obtain ⟨x, hxm, hcx⟩ := Loc.at_int (l := [r3, r4]) (Loc.lits _ LL rfl) r5 a5 (by simp; omega)
  have hx0 : 0 ≤ x ∧ x ≤ 39 := by
    simp only [List.mem_cons, List.not_mem_nil, or_false] at hxm
    rcases hxm with rfl | rfl <;> omega
  obtain ⟨hx0, hx1⟩ := hx0
  clear hxm
  obtain ⟨s0, s1, sf⟩ := LX.two
  go_wp2_with fail
  refine (l20Logical_any f0.erases.length _ (by omega) (by omega)).mono ?_
  rintro e w' ⟨rfl, rfl⟩
  go_wp2_with fail
  refine (pick_any B R (p + 1 + 1 + 1 + 1) (((f0.erases.length : Int) - 1) * 4) _ (by ((repeat (first | with_reducible assumption | with_reducible refine Rdr.drew ?_ | with_reducible refine Rdr.drewN ?_ _ | with_reducible refine Rdr.alloc ?_ _ | with_reducible refine Rdr.other ?_ _ _ ?_ ?_ | omega)); done)) (by omega) (by omega) (by omega)).mono ?_
  rintro e w6 ⟨r6, rfl, a6, b6, hR6, hg6⟩
  have b6' := b6 (by omega)
  clear b6
  replace hR6 := hR6.to (p' := p + 1 + 1 + 1 + 1 + 1) (by omega)
  have hz6 := hg6.size
  (try simp at hz6)
  have hlt6 := hR6.lt
  have ne6 : w6.heap.size ≠ R := by omega
  replace L4 := Loc.carry L4 (fun h => by ((repeat (first | with_reducible exact h | with_reducible refine Loc.drew ?_ | with_reducible refine Loc.drewN ?_ _ | with_reducible refine Loc.alloc ?_ _)); done)) hg6 (by omega)
  replace LX := Loc.carry LX (fun h => by ((repeat (first | with_reducible exact h | with_reducible refine Loc.drew ?_ | with_reducible refine Loc.drewN ?_ _ | with_reducible refine Loc.alloc ?_ _)); done)) hg6 (by omega)
  have HG6 := Lib.hid (grownBy_trans HG5.out hg6)
  replace HO := Lib.hid (FlashOwn.grown1 HO.out hg6 hRB)
  have hwf := IntWalk.i64_in (1 + r6) (by omega)
  obtain ⟨few, hfew⟩ : ∃ few, few = 1 + r6 := ⟨_, rfl⟩
  have hwf' : IntKind.i64.wrap (1 + r6) = few := by rw [hfew]; exact hwf
  have hfew1 : 1 ≤ few := by omega
  have hfew2 : few ≤ (E - 1) * 4 := by have := HEL.out; omega
  have hHF : Hid (Fsm E x f0) := Lib.hid ⟨HF.out.ok, HF.out.ers, by have := HF.out.wear; omega⟩
  have hHO : Hid (FlashOwn w1.heap.size w6 w2.heap.size [.slice Ay f0.pages.length cy, .slice Ay' f0.erases.length cy'] f0) := HO
  clear hg6 hwf hfew s0 s1 sf LL hcx HG1 HG2 HG3 HG4 HG5 HO HF
  go_wp2
  go_loopw [8] (fun kk wr => ∃ k q : Int, kk = .int .i64 k ∧ 0 ≤ k ∧ k ≤ 39 ∧ p ≤ q ∧ q + 2 * k ≤ p + 100 ∧ Rdr wr 82 B R q ∧ w.grownBy wr (some R) ∧ Loc wr w.heap.size [.slice none 0 0, .slice none 0 0] ∧ ∃ (f : Fl) (D0 D1 : Option Addr) (g0 g1 Bs Cs : Nat), Loc wr w2.heap.size [.slice D0 f.pages.length g0, .slice D1 f.erases.length g1] ∧ Hid (Fsm E k f) ∧ FlashOwn Bs wr Cs [.slice D0 f.pages.length g0, .slice D1 f.erases.length g1] f ∧ (Cs ≤ w2.heap.size ∨ w2.heap.size < Bs) ∧ R < Bs ∧ w.heap.size < Bs ∧ Cs ≤ wr.heap.size) (fun kk _ => (intOf kk).toNat)
  case atStart => exact ⟨x, p + 1 + 1 + 1 + 1 + 1, rfl, by omega, by omega, by omega, by omega, hR6, HG6.out, L4, f0, Ay, Ay', cy, cy', w1.heap.size, w2.heap.size, LX, hHF, hHO.out, .inl (Nat.le_refl _), by omega, by omega, by omega⟩
  case round =>
    clear L4 LX hHF hHO HG6
    obtain ⟨k, q, rfl, k0, k1, q0, q1, hRq, hgw, L4, f, D0, D1, g0, g1, Bs, Cs, LX, HF, hown, hBC, hRBs, hwBs, hCs⟩ := hrel
    obtain ⟨wa, hwa⟩ : ∃ x, x = wr := ⟨_, rfl⟩
    subst hwa
    have hzr := hgw.size
    have hRr := hRq.lt
    have zX := LX.lt
    have z4 := L4.lt
    have HO := Lib.hid hown
    have HG := Lib.hid hgw
    obtain ⟨s0, s1, sf⟩ := LX.two
    clear hown hgw
    by_cases hk : 0 < k
    · have hEL := HF.out.ers
      have hfp : f.pages.length ≤ 16 := by have := HF.out.ok.len; omega
      have hfsz : Hid (sizeFlash f ≤ 1099511627776) := Lib.hid (by unfold sizeFlash; omega)
      clear hEL
      go_wp2
      go_region_law (first
        | (go_simp; go_at_call 65; (with_reducible refine (pick_any B R q few _ (by ((repeat (first | with_reducible assumption | with_reducible refine Rdr.drew ?_ | with_reducible refine Rdr.drewN ?_ _ | with_reducible refine Rdr.alloc ?_ _ | with_reducible refine Rdr.other ?_ _ _ ?_ ?_ | omega)); done)) (by omega) (by omega) (by omega)).mono ?_); go_must (rintro e w7 ⟨r7, rfl, a7, b7, hR7, hg7⟩; have b7' := b7 (by omega); clear b7; replace hR7 := hR7.to (p' := q + 1) (by omega); have LX7 := Loc.carry LX (fun h => by ((repeat (first | with_reducible exact h | with_reducible refine Loc.drew ?_ | with_reducible refine Loc.drewN ?_ _ | with_reducible refine Loc.alloc ?_ _)); done)) hg7 (by omega); have L47 := Loc.carry L4 (fun h => by ((repeat (first | with_reducible exact h | with_reducible refine Loc.drew ?_ | with_reducible refine Loc.drewN ?_ _ | with_reducible refine Loc.alloc ?_ _)); done)) hg7 (by omega); obtain ⟨t0, t1, tf⟩ := LX7.two; have HO7 := Lib.hid (FlashOwn.grown1 (FlashOwn.drew HO.out) hg7 hRBs); have HG7 := Lib.hid (grownBy_trans (grownBy_drew HG.out) hg7); have hz7 := hg7.size; (try simp at hz7); have hlt7 := hR7.lt; have zX7 := LX7.lt; clear hg7))
        | (go_simp; go_at_call 65; (with_reducible refine (pick_any B R (q + 1) 256 _ (by ((repeat (first | with_reducible assumption | with_reducible refine Rdr.drew ?_ | with_reducible refine Rdr.drewN ?_ _ | with_reducible refine Rdr.alloc ?_ _ | with_reducible refine Rdr.other ?_ _ _ ?_ ?_ | omega)); done)) (by omega) (by omega) (by omega)).mono ?_); go_must (rintro e w8 ⟨r8, rfl, a8, b8, hR8, hg8⟩; have b8' := b8 (by omega); clear b8; replace hR8 := hR8.to (p' := q + 1 + 1) (by omega); have LX8 := Loc.carry LX7 (fun h => by ((repeat (first | with_reducible exact h | with_reducible refine Loc.drew ?_ | with_reducible refine Loc.drewN ?_ _ | with_reducible refine Loc.alloc ?_ _)); done)) hg8 (by omega); have L48 := Loc.carry L47 (fun h => by ((repeat (first | with_reducible exact h | with_reducible refine Loc.drew ?_ | with_reducible refine Loc.drewN ?_ _ | with_reducible refine Loc.alloc ?_ _)); done)) hg8 (by omega); obtain ⟨v0, v1, vf⟩ := LX8.two; have HO8 := Lib.hid (FlashOwn.grown1 HO7.out hg8 hRBs); have HG8 := Lib.hid (grownBy_trans HG7.out hg8); have hz8 := hg8.size; (try simp at hz8); have hlt8 := hR8.lt; have zX8 := LX8.lt; clear hg8))
        | (go_simp; go_at_call 44; (with_reducible refine (specWrite_c _ _ f r7 r8 _ (FlashOwn.rd HO8.out) hfsz.out).mono ?_); go_must (rintro e w9 ⟨y0, y1, rfl, O9, hb9⟩; obtain ⟨E0, h0, E1, h1, rfl, rfl⟩ := flashRd_lens (FlashOwn.rd O9); have LX9 := Loc.carryB LX8 (fun h => by ((repeat (first | with_reducible exact h | with_reducible refine Loc.drew ?_ | with_reducible refine Loc.drewN ?_ _ | with_reducible refine Loc.alloc ?_ _)); done)) hb9; have L49 := Loc.carryB L48 (fun h => by ((repeat (first | with_reducible exact h | with_reducible refine Loc.drew ?_ | with_reducible refine Loc.drewN ?_ _ | with_reducible refine Loc.alloc ?_ _)); done)) hb9; obtain ⟨x0, x1, xf⟩ := LX9.two; have HO9 := Lib.hid O9; have HG9 := Lib.hid (grownBy_below HG8.out hb9); have hR9 := hR8.below hb9; have hz9 := hb9.size; (try simp at hz9); have zX9 := LX9.lt; clear hb9 O9)))
      all_goals
        obtain ⟨f', hf'⟩ : ∃ f', f' = writeB f r7 r8 := ⟨_, rfl⟩
        have HF' : Hid (Fsm E (k - 1) f') := Lib.hid (by rw [hf']; exact HF.out.write (by omega) a7 (by omega) ⟨a8, by omega⟩)
        rw [← hf'] at HO9 ⊢
        clear hf'
        have LXx : Loc ((w9.setCell ⟨w2.heap.size, 0, none⟩ (.slice E0 f'.pages.length h0)).setCell ⟨w2.heap.size, 1, none⟩ (.slice E1 f'.erases.length h1)) w2.heap.size [.slice E0 f'.pages.length h0, .slice E1 f'.erases.length h1] := by simpa using (LX9.set 0 (.slice E0 f'.pages.length h0)).set 1 (.slice E1 f'.erases.length h1)
        have HOx : Hid (FlashOwn w8.heap.size ((w9.setCell ⟨w2.heap.size, 0, none⟩ (.slice E0 f'.pages.length h0)).setCell ⟨w2.heap.size, 1, none⟩ (.slice E1 f'.erases.length h1)) w9.heap.size [.slice E0 f'.pages.length h0, .slice E1 f'.erases.length h1] f') := Lib.hid (FlashOwn.other (FlashOwn.other HO9.out (.inl (by simp only; omega)) _) (.inl (by simp only; omega)) _)
        go_wp2
        go_roundw
        case rel => exact ⟨k - 1, q + 1 + 1, rfl, by omega, by omega, by omega, by omega, Rdr.other (Rdr.other hR9 _ _ (by omega) ne2) _ _ (by omega) ne2, grownBy_set (grownBy_set HG9.out (by omega) _ _) (by omega) _ _, (by repeat (first | with_reducible exact L49 | with_reducible refine Loc.drew ?_ | with_reducible refine Loc.drewN ?_ _ | with_reducible refine Loc.alloc ?_ _ | (with_reducible refine Loc.below ?_ (by assumption)) | ((with_reducible refine Loc.other' ?_ ?_ _); (focus (first | omega | (simp; omega) | (simp; done)))) | ((with_reducible refine Loc.far' (by assumption) ?_ ?_); (focus (first | omega | (simp; omega) | (simp; done)))))), f', E0, E1, h0, h1, w8.heap.size, w9.heap.size, LXx, HF', HOx.out, .inr (by omega), by omega, by omega, by simp⟩
        case measure => simp [intOf]; omega
    · have hEL := HF.out.ers
      have hfp : f.pages.length ≤ 16 := by have := HF.out.ok.len; omega
      have hfp8 : 8 ≤ f.pages.length := by have := HF.out.ok.len; omega
      have hfe4 : f.erases.length ≤ 4 := by omega
      have hfe2 : 2 ≤ f.erases.length := by omega
      have hsm := Lib.hid (HF.out.small k0)
      obtain ⟨g, hD0, hgB, hgC, hgl, -, hlc, hfz, -, -, -, -⟩ := HO.out.page (k := 0) (by omega)
      subst hD0
      have hgX : g ≠ w2.heap.size := by omega
      have hgW : g ≠ w.heap.size := by omega
      have hgR : g ≠ R := by omega
      clear hEL hgl hfz
      go_wp2_with fail
      refine (odd_any B R q n _ (by ((repeat (first | with_reducible assumption | with_reducible refine Rdr.drew ?_ | with_reducible refine Rdr.drewN ?_ _ | with_reducible refine Rdr.alloc ?_ _ | with_reducible refine Rdr.other ?_ _ _ ?_ ?_ | omega)); done)) (by omega) (by omega) (by omega) (by omega)).mono ?_
      rintro e w4 ⟨r4, rfl, hR4, hg4⟩
      replace hR4 := hR4.to (p' := q + 1) (by omega)
      have hz4 := hg4.size
      have hlt4 := hR4.lt
      replace LX := Loc.carry LX (fun h => by ((repeat (first | with_reducible exact h | with_reducible refine Loc.drew ?_ | with_reducible refine Loc.drewN ?_ _ | with_reducible refine Loc.alloc ?_ _)); done)) hg4 (by omega)
      replace L4 := Loc.carry L4 (fun h => by ((repeat (first | with_reducible exact h | with_reducible refine Loc.drew ?_ | with_reducible refine Loc.drewN ?_ _ | with_reducible refine Loc.alloc ?_ _)); done)) hg4 (by omega)
      have HO4 := Lib.hid (FlashOwn.grown1 HO.out hg4 hRBs)
      have HG4 := Lib.hid (grownBy_trans HG.out hg4)
      have zX4 := LX.lt
      have z44 := L4.lt
      clear hg4 s0 s1 sf HO HG
      cases r4
      · obtain ⟨s0, s1, sf⟩ := LX.two
        obtain ⟨v0, v1, vf⟩ := L4.two
        go_wp2
        refine bodyPost_ret (v := .agg #[.slice (some ⟨g, 0, none⟩) f.pages.length g0, .slice D1 f.erases.length g1]) (by simp [results, Try.results61, go_sem, *]; done) rfl ?_
        exact ⟨_, _, f, q + 1, rfl, fun w'' hg'' => FlashOwn.rd (FlashOwn.kept (B := Bs) (C := Cs) (by repeat (first | with_reducible exact HO4.out | with_reducible refine FlashOwn.drew ?_ | with_reducible refine FlashOwn.drewN ?_ _ | with_reducible refine FlashOwn.alloc ?_ _ | (with_reducible refine FlashOwn.below ?_ (by assumption)) | ((with_reducible refine FlashOwn.other ?_ ?_ _); rotate_left; (focus (first | omega | (simp; omega) | (simp; done)))))) (Kept.mono hg'' (Nat.le_of_lt hwBs))), hfp, hfe4, hsm.out, (by ((repeat (first | with_reducible assumption | with_reducible refine Rdr.drew ?_ | with_reducible refine Rdr.drewN ?_ _ | with_reducible refine Rdr.alloc ?_ _ | with_reducible refine Rdr.other ?_ _ _ ?_ ?_ | omega)); done)), by omega, by omega, (by repeat (first | with_reducible exact HG4.out | with_reducible refine grownBy_drew ?_ | with_reducible refine grownBy_drewN ?_ _ | with_reducible refine grownBy_alloc ?_ _ | (with_reducible refine grownBy_below ?_ (by assumption)) | ((with_reducible refine grownBy_set ?_ ?_ _ _); rotate_left; (focus (first | omega | (simp; omega) | (simp; done)))) | ((with_reducible refine grownBy_trans ?_ (by assumption)); done) | ((with_reducible refine grownBy_new (by assumption) ?_ ?_); (focus (first | omega | (simp; omega) | (simp; done))))))⟩
      · go_wp2_with fail
        refine (pick_any B R (q + 1) (4) _ (by ((repeat (first | with_reducible assumption | with_reducible refine Rdr.drew ?_ | with_reducible refine Rdr.drewN ?_ _ | with_reducible refine Rdr.alloc ?_ _ | with_reducible refine Rdr.other ?_ _ _ ?_ ?_ | omega)); done)) (by omega) (by omega) (by omega)).mono ?_
        rintro e w5 ⟨r5, rfl, a5, b5, hR5, hg5⟩
        have b5' := b5 (by omega)
        clear b5
        replace hR5 := hR5.to (p' := q + 1 + 1) (by omega)
        have hz5 := hg5.size
        (try simp at hz5)
        have hlt5 := hR5.lt
        have ne5 : w5.heap.size ≠ R := by omega
        replace LX := Loc.carry LX (fun h => by ((repeat (first | with_reducible exact h | with_reducible refine Loc.drew ?_ | with_reducible refine Loc.drewN ?_ _ | with_reducible refine Loc.alloc ?_ _)); done)) hg5 (by omega)
        replace L4 := Loc.carry L4 (fun h => by ((repeat (first | with_reducible exact h | with_reducible refine Loc.drew ?_ | with_reducible refine Loc.drewN ?_ _ | with_reducible refine Loc.alloc ?_ _)); done)) hg5 (by omega)
        have HO5 := Lib.hid (FlashOwn.grown1 HO4.out hg5 hRBs)
        have HG5 := Lib.hid (grownBy_trans HG4.out hg5)
        have zX5 := LX.lt
        have z45 := L4.lt
        clear hg5 HO4 HG4 zX4 z44
        obtain ⟨s0, s1, sf⟩ := LX.two
        obtain ⟨v0, v1, vf⟩ := L4.two
        have hcase : r5 = 0 ∨ r5 = 1 ∨ r5 = 2 ∨ r5 = 3 := by omega
        rcases hcase with rfl | rfl | rfl | rfl
        · go_wp2
          refine wp_region_noPanic ?_
          refine wp_region_held_drew (S := fun w' => w'.cell? ⟨w2.heap.size, 0, none⟩ = some (.slice (some ⟨g, 0, none⟩) f.pages.length g0) ∧ w'.cell? ⟨w2.heap.size, 1, none⟩ = some (.slice D1 f.erases.length g1)) (by kernel_rfl) ?_ (fun hHeld => ?_)
          focus (exact ⟨s0, s1⟩)
          (refine wpAnyH_take (i := 0) (oi := _) (v := ?_) rfl (by kernel_rfl) (by kernel_rfl) (by kernel_rfl) (fun _ _ _ h => h) (Or.inl ⟨by rfl, ?_⟩) (by assumption) ?_; rotate_left; (focus (intro wS hSw; (try dsimp only at hSw); go_simp; (try with_reducible rfl); done)); (try simp only [Act.put, List.setIfInBounds_toArray, List.set_cons_zero, List.set_cons_succ]))
          (refine wpAnyH_take (i := 1) (oi := _) (v := ?_) rfl (by kernel_rfl) (by kernel_rfl) (by kernel_rfl) (fun _ _ _ h => h) (Or.inl ⟨by rfl, ?_⟩) (by assumption) ?_; rotate_left; (focus (intro wS hSw; (try dsimp only at hSw); go_simp; (try with_reducible rfl); done)); (try simp only [Act.put, List.setIfInBounds_toArray, List.set_cons_zero, List.set_cons_succ]))
          (refine wpAnyH_take (i := 2) (oi := _) (v := ?_) rfl (by kernel_rfl) (by kernel_rfl) (by kernel_rfl) (fun _ _ _ h => h) (Or.inl ⟨by rfl, ?_⟩) (by assumption) ?_; rotate_left; (focus (intro wS hSw; (try dsimp only at hSw); go_simp; (try with_reducible rfl); done)); (try simp only [Act.put, List.setIfInBounds_toArray, List.set_cons_zero, List.set_cons_succ]))
          (refine wpAnyH_take (i := 3) (oi := _) (v := ?_) rfl (by kernel_rfl) (by kernel_rfl) (by kernel_rfl) (fun _ _ _ h => h) (Or.inl ⟨by rfl, ?_⟩) (by assumption) ?_; rotate_left; (focus (intro wS hSw; (try dsimp only at hSw); go_simp; (try with_reducible rfl); done)); (try simp only [Act.put, List.setIfInBounds_toArray, List.set_cons_zero, List.set_cons_succ]))
          (refine wpAnyH_take (i := 4) (oi := _) (v := ?_) rfl (by kernel_rfl) (by kernel_rfl) (by kernel_rfl) (fun _ _ _ h => h) (Or.inl ⟨by rfl, ?_⟩) (by assumption) ?_; rotate_left; (focus (intro wS hSw; (try dsimp only at hSw); go_simp; (try with_reducible rfl); done)); (try simp only [Act.put, List.setIfInBounds_toArray, List.set_cons_zero, List.set_cons_succ]))
          (refine wpAnyH_take (i := 5) (oi := _) (v := ?_) rfl (by kernel_rfl) (by kernel_rfl) (by kernel_rfl) (fun _ _ _ h => h) (Or.inl ⟨by rfl, ?_⟩) (by assumption) ?_; rotate_left; (focus (intro wS hSw; (try dsimp only at hSw); go_simp; (try with_reducible rfl); done)); (try simp only [Act.put, List.setIfInBounds_toArray, List.set_cons_zero, List.set_cons_succ]))
          (refine wpAnyH_take (i := 7) (oi := _) (v := ?_) rfl (by kernel_rfl) (by kernel_rfl) (by kernel_rfl) (fun _ _ _ h => h) (Or.inl ⟨by rfl, ?_⟩) (by assumption) ?_; rotate_left; (focus (intro wS hSw; (try dsimp only at hSw); go_simp; (try with_reducible rfl); done)); (try simp only [Act.put, List.setIfInBounds_toArray, List.set_cons_zero, List.set_cons_succ]))
          (refine wpAnyH_take (i := 8) (oi := _) (v := ?_) rfl (by kernel_rfl) (by kernel_rfl) (by kernel_rfl) (fun _ _ _ h => h) (Or.inl ⟨by rfl, ?_⟩) (by assumption) ?_; rotate_left; (focus (intro wS hSw; (try dsimp only at hSw); go_simp; (try with_reducible rfl); done)); (try simp only [Act.put, List.setIfInBounds_toArray, List.set_cons_zero, List.set_cons_succ]))
          (refine wpAnyH_take (i := 9) (oi := _) (v := ?_) rfl (by kernel_rfl) (by kernel_rfl) (by kernel_rfl) (fun _ _ _ h => h) (Or.inl ⟨by rfl, ?_⟩) (by assumption) ?_; rotate_left; (focus (intro wS hSw; (try dsimp only at hSw); go_simp; (try with_reducible rfl); done)); (try simp only [Act.put, List.setIfInBounds_toArray, List.set_cons_zero, List.set_cons_succ]))
          (refine wpAnyH_take (i := 12) (oi := _) (v := ?_) rfl (by kernel_rfl) (by kernel_rfl) (by kernel_rfl) (fun _ _ _ h => h) (Or.inl ⟨by rfl, ?_⟩) (by assumption) ?_; rotate_left; (focus (intro wS hSw; (try dsimp only at hSw); go_simp; (try with_reducible rfl); done)); (try simp only [Act.put, List.setIfInBounds_toArray, List.set_cons_zero, List.set_cons_succ]))
          refine wpAnyH_ready (rs := [6]) (by kernel_rfl) (by simp) ?_
          refine AllReadyH.cons (o := _) rfl (fun K hK => ?_) AllReadyH.nil
          go_simp
          refine (pick_any B R (q + 1 + 1) f.pages.length _ (by ((repeat (first | with_reducible assumption | with_reducible refine Rdr.drew ?_ | with_reducible refine Rdr.drewN ?_ _ | with_reducible refine Rdr.alloc ?_ _ | with_reducible refine Rdr.other ?_ _ _ ?_ ?_ | omega)); done)) (by omega) (by omega) (by omega)).mono ?_
          rintro e w6 ⟨r6, rfl, a6, b6, hR6, hg6⟩
          have b6' := b6 (by omega)
          clear b6
          replace hR6 := hR6.to (p' := q + 1 + 1 + 1) (by omega)
          have hz6 := hg6.size
          (try simp at hz6)
          have hlt6 := hR6.lt
          have ne6 : w6.heap.size ≠ R := by omega
          obtain ⟨j, rfl⟩ := Int.eq_ofNat_of_zero_le a6
          have hjl : j < f.pages.length := by omega
          replace LX := Loc.carry LX (fun h => by ((repeat (first | with_reducible exact h | with_reducible refine Loc.drew ?_ | with_reducible refine Loc.drewN ?_ _ | with_reducible refine Loc.alloc ?_ _)); done)) hg6 (by omega)
          replace L4 := Loc.carry L4 (fun h => by ((repeat (first | with_reducible exact h | with_reducible refine Loc.drew ?_ | with_reducible refine Loc.drewN ?_ _ | with_reducible refine Loc.alloc ?_ _)); done)) hg6 (by omega)
          have HO6 := Lib.hid (FlashOwn.grown1 (FlashOwn.drew HO5.out) hg6 hRBs)
          have HG6 := Lib.hid (grownBy_trans (grownBy_drew HG5.out) hg6)
          clear s0 s1 sf hg6
          obtain ⟨s0, s1, sf⟩ := LX.two
          have zX6 := LX.lt
          have z46 := L4.lt
          go_wp2_with fail
          refine hK.out _ _ ?_ (fun hHeld => ?_)
          focus (exact ⟨s0, s1⟩)
          clear hK K
          try simp only [List.getElem_toArray, List.getElem_cons_succ, List.getElem_cons_zero, Act.put, List.setIfInBounds_toArray, List.set_cons_zero, List.set_cons_succ]
          refine wpAnyH_ready (rs := [10]) (by kernel_rfl) (by simp) ?_
          refine AllReadyH.cons (o := _) rfl (fun K hK => ?_) AllReadyH.nil
          go_simp
          refine (l20Logical_any f.erases.length _ (by omega) (by omega)).mono ?_
          rintro e w' ⟨rfl, rfl⟩
          go_wp2_with fail
          refine hK.out _ _ ?_ (fun hHeld => ?_)
          focus (exact ⟨s0, s1⟩)
          clear hK K
          try simp only [List.getElem_toArray, List.getElem_cons_succ, List.getElem_cons_zero, Act.put, List.setIfInBounds_toArray, List.set_cons_zero, List.set_cons_succ]
          refine wpAnyH_ready (rs := [11, 13]) (by kernel_rfl) (by simp) ?_
          refine AllReadyH.cons (o := _) rfl (fun K hK => ?_) (AllReadyH.cons (o := _) rfl (fun K hK => ?_) AllReadyH.nil)
          · go_simp
            refine hK.out _ _ ?_ (fun hHeld => ?_)
            focus ((first | exact ⟨(Loc.two (Loc.alloc LX _)).1, (Loc.two (Loc.alloc LX _)).2.1⟩ | exact ⟨s0, s1⟩ | (refine ⟨?_, ?_⟩ <;> (simp [go_sem, *]; done))))
            clear hK K
            try simp only [List.getElem_toArray, List.getElem_cons_succ, List.getElem_cons_zero, Act.put, List.setIfInBounds_toArray, List.set_cons_zero, List.set_cons_succ]
            have LL := Loc.newAt w6 [.int .i64 (-3), .int .i64 (((f.erases.length : Int) - 1) * 4)] 3 (b := w6.heap.size) rfl
            refine wpAnyH_ready (rs := [13]) (by kernel_rfl) (by simp) ?_
            refine AllReadyH.cons (o := _) rfl (fun K hK => ?_) AllReadyH.nil
            go_simp
            refine (pick_any B R (q + 1 + 1 + 1) 2 _ (by ((repeat (first | with_reducible assumption | with_reducible refine Rdr.drew ?_ | with_reducible refine Rdr.drewN ?_ _ | with_reducible refine Rdr.alloc ?_ _ | with_reducible refine Rdr.other ?_ _ _ ?_ ?_ | omega)); done)) (by omega) (by omega) (by omega)).mono ?_
            rintro e w7 ⟨r7, rfl, a7, b7, hR7, hg7⟩
            have b7' := b7 (by omega)
            clear b7
            replace hR7 := hR7.to (p' := q + 1 + 1 + 1 + 1) (by omega)
            have hz7 := hg7.size
            (try simp at hz7)
            have hlt7 := hR7.lt
            have ne7 : w7.heap.size ≠ R := by omega
            replace LL := Loc.carry LL (fun h => by ((repeat (first | with_reducible exact h | with_reducible refine Loc.drew ?_ | with_reducible refine Loc.drewN ?_ _ | with_reducible refine Loc.alloc ?_ _)); done)) hg7 (by omega)
            replace LX := Loc.carry LX (fun h => by ((repeat (first | with_reducible exact h | with_reducible refine Loc.drew ?_ | with_reducible refine Loc.drewN ?_ _ | with_reducible refine Loc.alloc ?_ _)); done)) hg7 (by omega)
            replace L4 := Loc.carry L4 (fun h => by ((repeat (first | with_reducible exact h | with_reducible refine Loc.drew ?_ | with_reducible refine Loc.drewN ?_ _ | with_reducible refine Loc.alloc ?_ _)); done)) hg7 (by omega)
            obtain ⟨u0, u1, uf⟩ := LX.two
            go_wp2_with fail
            refine hK.out _ _ ?_ (fun hHeld => ?_)
            focus (exact ⟨u0, u1⟩)
            clear hK K
            try simp only [List.getElem_toArray, List.getElem_cons_succ, List.getElem_cons_zero, Act.put, List.setIfInBounds_toArray, List.set_cons_zero, List.set_cons_succ]
            have HO7 := Lib.hid (FlashOwn.grown1 (FlashOwn.alloc HO6.out (.cells #[.int .i64 (-3), .int .i64 (((f.erases.length : Int) - 1) * 4)] 3)) hg7 hRBs)
            have HG7 := Lib.hid (grownBy_trans (grownBy_alloc HG6.out (.cells #[.int .i64 (-3), .int .i64 (((f.erases.length : Int) - 1) * 4)] 3)) hg7)
            clear hg7
            obtain ⟨x, -, hcx⟩ := Loc.at_int (l := [-3, ((f.erases.length : Int) - 1) * 4]) (Loc.lits _ LL rfl) r7 a7 (by simp; omega)
            obtain ⟨g', hge, -, -, hgl6, -, -, hfz6, hc6, -, -, hset6⟩ := HO7.out.page (k := j) hjl
            cases hge
            have HS := Lib.hid (hset6 x)
            have hfz60 := hfz6 (j * 2)
            have zL := LL.lt
            have hsl : Hid ((f.pages.set j ⟨x, (f.pages[j]'hjl).val⟩).length ≤ 16) := Lib.hid (by simpa using hfp)
            clear hset6 hfz6
            obtain ⟨t0, t1, tf⟩ := L4.two
            have zX9 := LX.lt
            have z49 := L4.lt
            (refine wpAnyH_take (i := 14) (oi := _) (v := ?_) rfl (by kernel_rfl) (by kernel_rfl) (by kernel_rfl) (fun _ _ _ h => h) (Or.inl ⟨by rfl, ?_⟩) (by assumption) ?_; rotate_left; (focus (intro wS hSw; (try dsimp only at hSw); go_simp; (try with_reducible rfl); done)); (try simp only [Act.put, List.setIfInBounds_toArray, List.set_cons_zero, List.set_cons_succ]))
            refine wpAnyH_ready (rs := [15]) (by kernel_rfl) (by simp) ?_
            refine AllReadyH.cons (o := _) rfl (fun K hK => ?_) AllReadyH.nil
            go_simp
            refine hK.out _ _ ?_ (fun hHeld => ?_)
            focus (exact ⟨u0, u1⟩)
            clear hK K
            try simp only [List.getElem_toArray, List.getElem_cons_succ, List.getElem_cons_zero, Act.put, List.setIfInBounds_toArray, List.set_cons_zero, List.set_cons_succ]
            (refine wpAnyH_take (i := 16) (oi := _) (v := ?_) rfl (by kernel_rfl) (by kernel_rfl) (by kernel_rfl) (fun _ _ _ h => h) (Or.inl ⟨by rfl, ?_⟩) (by assumption) ?_; rotate_left; (focus (intro wS hSw; (try dsimp only at hSw); go_simp; (try with_reducible rfl); done)); (try simp only [Act.put, List.setIfInBounds_toArray, List.set_cons_zero, List.set_cons_succ]))
            (refine wpAnyH_take (i := 17) (oi := _) (v := ?_) rfl (by kernel_rfl) (by kernel_rfl) (by kernel_rfl) (fun _ _ _ h => h) (Or.inl ⟨by rfl, ?_⟩) (by assumption) ?_; rotate_left; (focus (intro wS hSw; (try dsimp only at hSw); go_simp; (try with_reducible rfl); done)); (try simp only [Act.put, List.setIfInBounds_toArray, List.set_cons_zero, List.set_cons_succ]))
            refine wpAnyH_ready (rs := [18]) (by kernel_rfl) (by simp) ?_
            refine AllReadyH.cons (o := _) rfl (fun K hK => ?_) AllReadyH.nil
            go_simp
            refine hK.out _ _ ?_ (fun hHeld => ?_)
            focus ((refine ⟨?_, ?_⟩ <;> (simp [go_sem, *]; done)))
            clear hK K
            try simp only [List.getElem_toArray, List.getElem_cons_succ, List.getElem_cons_zero, Act.put, List.setIfInBounds_toArray, List.set_cons_zero, List.set_cons_succ]
            refine wpAnyH_done (by kernel_rfl) ?_ _
            refine NoPanic.normal ?_
            go_wp2
            refine bodyPost_ret (v := .agg #[.slice (some ⟨g, 0, none⟩) f.pages.length g0, .slice D1 f.erases.length g1]) (by simp [results, Try.results61, go_sem, *]; done) rfl ?_
            exact ⟨_, _, ⟨f.pages.set j ⟨x, (f.pages[j]'hjl).val⟩, f.erases⟩, q + 1 + 1 + 1 + 1, rfl, fun w'' hg'' => FlashOwn.rd (FlashOwn.kept (B := Bs) (C := Cs) (by repeat (first | with_reducible exact HS.out | with_reducible refine FlashOwn.drew ?_ | with_reducible refine FlashOwn.drewN ?_ _ | with_reducible refine FlashOwn.alloc ?_ _ | (with_reducible refine FlashOwn.below ?_ (by assumption)) | ((with_reducible refine FlashOwn.other ?_ ?_ _); rotate_left; (focus (first | omega | (simp; omega) | (simp; done)))))) (Kept.mono hg'' (Nat.le_of_lt hwBs))), hsl.out, hfe4, hsm.out, (by ((repeat (first | with_reducible assumption | with_reducible refine Rdr.drew ?_ | with_reducible refine Rdr.drewN ?_ _ | with_reducible refine Rdr.alloc ?_ _ | with_reducible refine Rdr.other ?_ _ _ ?_ ?_ | omega)); done)), by omega, by omega, (by repeat (first | with_reducible exact HG7.out | with_reducible refine grownBy_drew ?_ | with_reducible refine grownBy_drewN ?_ _ | with_reducible refine grownBy_alloc ?_ _ | (with_reducible refine grownBy_below ?_ (by assumption)) | ((with_reducible refine grownBy_set ?_ ?_ _ _); rotate_left; (focus (first | omega | (simp; omega) | (simp; done)))) | ((with_reducible refine grownBy_trans ?_ (by assumption)); done) | ((with_reducible refine grownBy_new (by assumption) ?_ ?_); (focus (first | omega | (simp; omega) | (simp; done))))))⟩
          · go_simp
            refine (pick_any B R (q + 1 + 1 + 1) 2 _ (by ((repeat (first | with_reducible assumption | with_reducible refine Rdr.drew ?_ | with_reducible refine Rdr.drewN ?_ _ | with_reducible refine Rdr.alloc ?_ _ | with_reducible refine Rdr.other ?_ _ _ ?_ ?_ | omega)); done)) (by omega) (by omega) (by omega)).mono ?_
            rintro e w7 ⟨r7, rfl, a7, b7, hR7, hg7⟩
            have b7' := b7 (by omega)
            clear b7
            replace hR7 := hR7.to (p' := q + 1 + 1 + 1 + 1) (by omega)
            have hz7 := hg7.size
            (try simp at hz7)
            have hlt7 := hR7.lt
            have ne7 : w7.heap.size ≠ R := by omega
            replace LX := Loc.carry LX (fun h => by ((repeat (first | with_reducible exact h | with_reducible refine Loc.drew ?_ | with_reducible refine Loc.drewN ?_ _ | with_reducible refine Loc.alloc ?_ _)); done)) hg7 (by omega)
            replace L4 := Loc.carry L4 (fun h => by ((repeat (first | with_reducible exact h | with_reducible refine Loc.drew ?_ | with_reducible refine Loc.drewN ?_ _ | with_reducible refine Loc.alloc ?_ _)); done)) hg7 (by omega)
            obtain ⟨u0, u1, uf⟩ := LX.two
            have zX7 := LX.lt
            go_wp2_with fail
            refine hK.out _ _ ?_ (fun hHeld => ?_)
            focus (exact ⟨u0, u1⟩)
            clear hK K
            try simp only [List.getElem_toArray, List.getElem_cons_succ, List.getElem_cons_zero, Act.put, List.setIfInBounds_toArray, List.set_cons_zero, List.set_cons_succ]
            refine wpAnyH_ready (rs := [11]) (by kernel_rfl) (by simp) ?_
            refine AllReadyH.cons (o := _) rfl (fun K hK => ?_) AllReadyH.nil
            go_simp
            refine hK.out _ _ ?_ (fun hHeld => ?_)
            focus ((first | exact ⟨(Loc.two (Loc.alloc LX _)).1, (Loc.two (Loc.alloc LX _)).2.1⟩ | exact ⟨u0, u1⟩ | (refine ⟨?_, ?_⟩ <;> (simp [go_sem, *]; done))))
            clear hK K
            try simp only [List.getElem_toArray, List.getElem_cons_succ, List.getElem_cons_zero, Act.put, List.setIfInBounds_toArray, List.set_cons_zero, List.set_cons_succ]
            have LL := Loc.newAt w7 [.int .i64 (-3), .int .i64 (((f.erases.length : Int) - 1) * 4)] 3 (b := w7.heap.size) rfl
            replace LX := Loc.alloc LX (.cells #[.int .i64 (-3), .int .i64 (((f.erases.length : Int) - 1) * 4)] 3)
            replace L4 := Loc.alloc L4 (.cells #[.int .i64 (-3), .int .i64 (((f.erases.length : Int) - 1) * 4)] 3)
            have HO7 := Lib.hid (FlashOwn.alloc (FlashOwn.grown1 HO6.out hg7 hRBs) (.cells #[.int .i64 (-3), .int .i64 (((f.erases.length : Int) - 1) * 4)] 3))
            have HG7 := Lib.hid (grownBy_alloc (grownBy_trans HG6.out hg7) (.cells #[.int .i64 (-3), .int .i64 (((f.erases.length : Int) - 1) * 4)] 3))
            have u0' := (Loc.two LX).1
            have u1' := (Loc.two LX).2.1
            clear u0 u1 uf
            have u0 := u0'
            have u1 := u1'
            clear u0' u1'
            clear hg7
            obtain ⟨x, -, hcx⟩ := Loc.at_int (l := [-3, ((f.erases.length : Int) - 1) * 4]) (Loc.lits _ LL rfl) r7 a7 (by simp; omega)
            obtain ⟨g', hge, -, -, hgl6, -, -, hfz6, hc6, -, -, hset6⟩ := HO7.out.page (k := j) hjl
            cases hge
            have HS := Lib.hid (hset6 x)
            have hfz60 := hfz6 (j * 2)
            have zL := LL.lt
            have hsl : Hid ((f.pages.set j ⟨x, (f.pages[j]'hjl).val⟩).length ≤ 16) := Lib.hid (by simpa using hfp)
            clear hset6 hfz6
            obtain ⟨t0, t1, tf⟩ := L4.two
            have zX9 := LX.lt
            have z49 := L4.lt
            (refine wpAnyH_take (i := 14) (oi := _) (v := ?_) rfl (by kernel_rfl) (by kernel_rfl) (by kernel_rfl) (fun _ _ _ h => h) (Or.inl ⟨by rfl, ?_⟩) (by assumption) ?_; rotate_left; (focus (intro wS hSw; (try dsimp only at hSw); go_simp; (try with_reducible rfl); done)); (try simp only [Act.put, List.setIfInBounds_toArray, List.set_cons_zero, List.set_cons_succ]))
            refine wpAnyH_ready (rs := [15]) (by kernel_rfl) (by simp) ?_
            refine AllReadyH.cons (o := _) rfl (fun K hK => ?_) AllReadyH.nil
            go_simp
            refine hK.out _ _ ?_ (fun hHeld => ?_)
            focus (exact ⟨u0, u1⟩)
            clear hK K
            try simp only [List.getElem_toArray, List.getElem_cons_succ, List.getElem_cons_zero, Act.put, List.setIfInBounds_toArray, List.set_cons_zero, List.set_cons_succ]
            (refine wpAnyH_take (i := 16) (oi := _) (v := ?_) rfl (by kernel_rfl) (by kernel_rfl) (by kernel_rfl) (fun _ _ _ h => h) (Or.inl ⟨by rfl, ?_⟩) (by assumption) ?_; rotate_left; (focus (intro wS hSw; (try dsimp only at hSw); go_simp; (try with_reducible rfl); done)); (try simp only [Act.put, List.setIfInBounds_toArray, List.set_cons_zero, List.set_cons_succ]))
            (refine wpAnyH_take (i := 17) (oi := _) (v := ?_) rfl (by kernel_rfl) (by kernel_rfl) (by kernel_rfl) (fun _ _ _ h => h) (Or.inl ⟨by rfl, ?_⟩) (by assumption) ?_; rotate_left; (focus (intro wS hSw; (try dsimp only at hSw); go_simp; (try with_reducible rfl); done)); (try simp only [Act.put, List.setIfInBounds_toArray, List.set_cons_zero, List.set_cons_succ]))
            refine wpAnyH_ready (rs := [18]) (by kernel_rfl) (by simp) ?_
            refine AllReadyH.cons (o := _) rfl (fun K hK => ?_) AllReadyH.nil
            go_simp
            refine hK.out _ _ ?_ (fun hHeld => ?_)
            focus ((refine ⟨?_, ?_⟩ <;> (simp [go_sem, *]; done)))
            clear hK K
            try simp only [List.getElem_toArray, List.getElem_cons_succ, List.getElem_cons_zero, Act.put, List.setIfInBounds_toArray, List.set_cons_zero, List.set_cons_succ]
            refine wpAnyH_done (by kernel_rfl) ?_ _
            refine NoPanic.normal ?_
            go_wp2
            refine bodyPost_ret (v := .agg #[.slice (some ⟨g, 0, none⟩) f.pages.length g0, .slice D1 f.erases.length g1]) (by simp [results, Try.results61, go_sem, *]; done) rfl ?_
            exact ⟨_, _, ⟨f.pages.set j ⟨x, (f.pages[j]'hjl).val⟩, f.erases⟩, q + 1 + 1 + 1 + 1, rfl, fun w'' hg'' => FlashOwn.rd (FlashOwn.kept (B := Bs) (C := Cs) (by repeat (first | with_reducible exact HS.out | with_reducible refine FlashOwn.drew ?_ | with_reducible refine FlashOwn.drewN ?_ _ | with_reducible refine FlashOwn.alloc ?_ _ | (with_reducible refine FlashOwn.below ?_ (by assumption)) | ((with_reducible refine FlashOwn.other ?_ ?_ _); rotate_left; (focus (first | omega | (simp; omega) | (simp; done)))))) (Kept.mono hg'' (Nat.le_of_lt hwBs))), hsl.out, hfe4, hsm.out, (by ((repeat (first | with_reducible assumption | with_reducible refine Rdr.drew ?_ | with_reducible refine Rdr.drewN ?_ _ | with_reducible refine Rdr.alloc ?_ _ | with_reducible refine Rdr.other ?_ _ _ ?_ ?_ | omega)); done)), by omega, by omega, (by repeat (first | with_reducible exact HG7.out | with_reducible refine grownBy_drew ?_ | with_reducible refine grownBy_drewN ?_ _ | with_reducible refine grownBy_alloc ?_ _ | (with_reducible refine grownBy_below ?_ (by assumption)) | ((with_reducible refine grownBy_set ?_ ?_ _ _); rotate_left; (focus (first | omega | (simp; omega) | (simp; done)))) | ((with_reducible refine grownBy_trans ?_ (by assumption)); done) | ((with_reducible refine grownBy_new (by assumption) ?_ ?_); (focus (first | omega | (simp; omega) | (simp; done))))))⟩
        · obtain ⟨g', hge, -, -, hgl, -, -, hfz, hc0, hc1, -, hset⟩ := HO5.out.page (k := 0) (by omega)
          cases hge
          have hS := hset 0
          have hf0 := hfz (0 * 2)
          rw [Nat.zero_mul] at hc0 hf0 hS
          obtain ⟨fa, hfa⟩ : ∃ fa : Fl, fa = ⟨f.pages.set 0 ⟨0, (f.pages[0]'(by omega)).val⟩, f.erases⟩ := ⟨_, rfl⟩
          rw [← hfa] at hS
          have hfal : fa.pages.length = f.pages.length := by rw [hfa]; simp
          have hfae : fa.erases = f.erases := by rw [hfa]
          obtain ⟨g'', hge, -, -, hgl2, -, -, hfz2, hd0, hd1, -, hset2⟩ := hS.page (k := 1) (by omega)
          cases hge
          have hS2 := Lib.hid (hset2 0)
          have hf1 := hfz2 (1 * 2)
          rw [Nat.one_mul] at hd0 hf1 hS2
          have hl2 : (fa.pages.set 1 ⟨0, (fa.pages[1]'(by omega)).val⟩).length = f.pages.length := by simp [hfal]
          obtain ⟨fb, hfb⟩ : ∃ fb : Fl, fb = ⟨fa.pages.set 1 ⟨0, (fa.pages[1]'(by omega)).val⟩, fa.erases⟩ := ⟨_, rfl⟩
          rw [← hfb] at hS2
          have HS3 : Hid (FlashOwn Bs ((w5.setCell ⟨g, 0, none⟩ (.int .i64 0)).setCell ⟨g, 2, none⟩ (.int .i64 0)) Cs [.slice (some ⟨g, 0, none⟩) f.pages.length g0, .slice D1 f.erases.length g1] fb) := hS2
          have hfbl : fb.pages.length = f.pages.length := by rw [hfb]; exact hl2
          have hfbe : fb.erases = f.erases := by rw [hfb]; exact hfae
          have HFB := Lib.hid hfbl
          have HFE := Lib.hid hfbe
          have hs1 : 1 < f.pages.length := by omega
          have hs0 : 0 < f.pages.length := by omega
          obtain ⟨o1, ho1⟩ : ∃ o1, o1 = (fa.pages[1]'(by omega)).own := ⟨_, rfl⟩
          rw [← ho1] at hd0
          clear hset hset2 hfz hfz2 hS hfb hfbl hfbe hl2 ho1 hd1
          clear hfa hfal hfae
          go_wp2
          refine bodyPost_ret (v := .agg #[.slice (some ⟨g, 0, none⟩) f.pages.length g0, .slice D1 f.erases.length g1]) (by simp [results, Try.results61, go_sem, *]; done) rfl ?_
          exact ⟨_, _, fb, q + 1 + 1, rfl, fun w'' hg'' => FlashOwn.rd (FlashOwn.kept (B := Bs) (C := Cs) (by repeat (first | with_reducible exact HS3.out | with_reducible refine FlashOwn.drew ?_ | with_reducible refine FlashOwn.drewN ?_ _ | with_reducible refine FlashOwn.alloc ?_ _ | (with_reducible refine FlashOwn.below ?_ (by assumption)) | ((with_reducible refine FlashOwn.other ?_ ?_ _); rotate_left; (focus (first | omega | (simp; omega) | (simp; done)))))) (Kept.mono hg'' (Nat.le_of_lt hwBs))), by rw [HFB.out]; exact hfp, by rw [HFE.out]; exact hfe4, by rw [HFE.out]; exact hsm.out, (by ((repeat (first | with_reducible assumption | with_reducible refine Rdr.drew ?_ | with_reducible refine Rdr.drewN ?_ _ | with_reducible refine Rdr.alloc ?_ _ | with_reducible refine Rdr.other ?_ _ _ ?_ ?_ | omega)); done)), by omega, by omega, (by repeat (first | with_reducible exact HG5.out | with_reducible refine grownBy_drew ?_ | with_reducible refine grownBy_drewN ?_ _ | with_reducible refine grownBy_alloc ?_ _ | (with_reducible refine grownBy_below ?_ (by assumption)) | ((with_reducible refine grownBy_set ?_ ?_ _ _); rotate_left; (focus (first | omega | (simp; omega) | (simp; done)))) | ((with_reducible refine grownBy_trans ?_ (by assumption)); done) | ((with_reducible refine grownBy_new (by assumption) ?_ ?_); (focus (first | omega | (simp; omega) | (simp; done))))))⟩
        · have hr1 : (1 : Int) ≤ (f.pages.length : Int) := by omega
          have hr2 : (f.pages.length : Int) ≤ (g0 : Int) := by omega
          have hr3 : (1 : Int) ≤ (g0 : Int) := by omega
          have hr4 : ¬ (g0 = 1) := by omega
          have hdl : (f.pages.drop 1).length = f.pages.length - 1 := by simp
          have HDL := Lib.hid hdl
          have hfp' : (f.pages.drop 1).length ≤ 16 := by omega
          clear hdl
          go_wp2
          have HNE : Hid (∀ w'' : World, FlashRd w'' [.slice (some ⟨g, 0, none⟩) f.pages.length g0, .slice D1 f.erases.length g1] f → FlashRd w'' [.slice (some ⟨g, 2, none⟩) (f.pages.length - 1) (g0 - 1), .slice D1 f.erases.length g1] ⟨f.pages.drop 1, f.erases⟩) := Lib.hid (by
            intro w'' h0
            have hpg := FlashRd.pgs h0
            obtain ⟨u, v, h1, h2, h3⟩ := h0
            simp only [List.cons.injEq, and_true] at h1
            obtain ⟨rfl, rfl⟩ := h1
            have hd := Rd.dropAt hpg 1
            obtain ⟨_, _, hee, _, q1, q2, _⟩ := h2
            cases hee
            refine ⟨_, _, rfl, ⟨some ⟨g, 2, none⟩, g0 - 1, by rw [HDL.out], ?_, by rw [HDL.out]; omega, by rw [HDL.out]; omega, fun h => nomatch h⟩, h3⟩
            simpa [encPageS] using hd)
          refine bodyPost_ret (v := .agg #[.slice (some ⟨g, 2, none⟩) (f.pages.length - 1) (g0 - 1), .slice D1 f.erases.length g1]) (by simp [results, Try.results61, go_sem, *]; done) rfl ?_
          exact ⟨_, _, ⟨f.pages.drop 1, f.erases⟩, q + 1 + 1, rfl, fun w'' hg'' => HNE.out _ (FlashOwn.rd (FlashOwn.kept (B := Bs) (C := Cs) (by repeat (first | with_reducible exact HO5.out | with_reducible refine FlashOwn.drew ?_ | with_reducible refine FlashOwn.drewN ?_ _ | with_reducible refine FlashOwn.alloc ?_ _ | (with_reducible refine FlashOwn.below ?_ (by assumption)) | ((with_reducible refine FlashOwn.other ?_ ?_ _); rotate_left; (focus (first | omega | (simp; omega) | (simp; done)))))) (Kept.mono hg'' (Nat.le_of_lt hwBs)))), hfp', hfe4, hsm.out, (by ((repeat (first | with_reducible assumption | with_reducible refine Rdr.drew ?_ | with_reducible refine Rdr.drewN ?_ _ | with_reducible refine Rdr.alloc ?_ _ | with_reducible refine Rdr.other ?_ _ _ ?_ ?_ | omega)); done)), by omega, by omega, (by repeat (first | with_reducible exact HG5.out | with_reducible refine grownBy_drew ?_ | with_reducible refine grownBy_drewN ?_ _ | with_reducible refine grownBy_alloc ?_ _ | (with_reducible refine grownBy_below ?_ (by assumption)) | ((with_reducible refine grownBy_set ?_ ?_ _ _); rotate_left; (focus (first | omega | (simp; omega) | (simp; done)))) | ((with_reducible refine grownBy_trans ?_ (by assumption)); done) | ((with_reducible refine grownBy_new (by assumption) ?_ ?_); (focus (first | omega | (simp; omega) | (simp; done))))))⟩
        · have HNE : Hid (∀ w'' : World, FlashRd w'' [.slice (some ⟨g, 0, none⟩) f.pages.length g0, .slice D1 f.erases.length g1] f → FlashRd w'' [.slice (some ⟨g, 0, none⟩) f.pages.length g0, .slice (some ⟨w5.heap.size, 0, none⟩) 0 0] ⟨f.pages, []⟩) := Lib.hid (by
            intro w'' h0
            obtain ⟨u, v, h1, h2, h3⟩ := h0
            simp only [List.cons.injEq, and_true] at h1
            obtain ⟨rfl, rfl⟩ := h1
            exact ⟨_, _, rfl, h2, ⟨some ⟨w5.heap.size, 0, none⟩, 0, rfl, fun h => absurd h (by simp), Nat.le_refl _, by simp [maxLen], fun h => nomatch h⟩⟩)
          go_wp2
          refine bodyPost_ret (v := .agg #[.slice (some ⟨g, 0, none⟩) f.pages.length g0, .slice (some ⟨w5.heap.size, 0, none⟩) 0 0]) (by simp [results, Try.results61, go_sem, *]; done) rfl ?_
          exact ⟨_, _, ⟨f.pages, []⟩, q + 1 + 1, rfl, fun w'' hg'' => HNE.out _ (FlashOwn.rd (FlashOwn.kept (B := Bs) (C := Cs) (by repeat (first | with_reducible exact HO5.out | with_reducible refine FlashOwn.drew ?_ | with_reducible refine FlashOwn.drewN ?_ _ | with_reducible refine FlashOwn.alloc ?_ _ | (with_reducible refine FlashOwn.below ?_ (by assumption)) | ((with_reducible refine FlashOwn.other ?_ ?_ _); rotate_left; (focus (first | omega | (simp; omega) | (simp; done)))))) (Kept.mono hg'' (Nat.le_of_lt hwBs)))), hfp, by simp, (fun _ h => nomatch h), (by ((repeat (first | with_reducible assumption | with_reducible refine Rdr.drew ?_ | with_reducible refine Rdr.drewN ?_ _ | with_reducible refine Rdr.alloc ?_ _ | with_reducible refine Rdr.other ?_ _ _ ?_ ?_ | omega)); done)), by omega, by omega, (by repeat (first | with_reducible exact HG5.out | with_reducible refine grownBy_drew ?_ | with_reducible refine grownBy_drewN ?_ _ | with_reducible refine grownBy_alloc ?_ _ | (with_reducible refine grownBy_below ?_ (by assumption)) | ((with_reducible refine grownBy_set ?_ ?_ _ _); rotate_left; (focus (first | omega | (simp; omega) | (simp; done)))) | ((with_reducible refine grownBy_trans ?_ (by assumption)); done) | ((with_reducible refine grownBy_new (by assumption) ?_ ?_); (focus (first | omega | (simp; omega) | (simp; done))))))⟩
end Go.Proofs.Ytnnanknljpkdeaa
