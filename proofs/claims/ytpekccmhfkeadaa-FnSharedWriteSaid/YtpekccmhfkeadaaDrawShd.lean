/-
  What the draw of a shared volume gives. Conditions: the count of draws stays below 10^9.
-/
import Derived.Test.YtpekccmhfkeadaaBase
import Derived.Test.YtpekccmhfkeadaaNum
import Derived.Test.YtpekccmhfkeadaaInts
import Derived.Test.YtpekccmhfkeadaaApp
import Derived.Test.YtpekccmhfkeadaaIntsW
import Derived.Test.YtpekccmhfkeadaaLib
import Derived.Test.YtpekccmhfkeadaaSpares
import Derived.Test.YtpekccmhfkeadaaOwn
import Derived.Test.YtpekccmhfkeadaaCopy
import Derived.Test.YtpekccmhfkeadaaShared
import Derived.Test.YtpekccmhfkeadaaSharedM
import Derived.Test.YtpekccmhfkeadaaSharedC
import Derived.Test.YtpekccmhfkeadaaSharedV
import Derived.Test.YtpekccmhfkeadaaSharedU
import Derived.Test.YtpekccmhfkeadaaSharedD
import Derived.Test.YtpekccmhfkeadaaSharedWM
import Derived.Test.YtpekccmhfkeadaaDel
import Derived.Test.YtpekccmhfkeadaaThinC
import Derived.Test.YtpekccmhfkeadaaSharedP
import Derived.Test.YtpekccmhfkeadaaFlashX
import Derived.Test.YtpekccmhfkeadaaSharedPs
import Derived.Test.YtpekccmhfkeadaaDraw
import Derived.Test.YtpekccmhfkeadaaDrawK
import Derived.Test.YtpekccmhfkeadaaDrawD
import Derived.IntWalk
import Derived.StillTailTactics
namespace Go.Proofs.Ytpekccmhfkeadaa
open Go.RowKit
section
variable {w w' : World} {xs : List Value} {s : Sh} {B C : Nat}
theorem SharedOwn.alloc (h : SharedOwn B w C xs s) (o : Obj) : SharedOwn B (w.alloc o) C xs s := h.below ((Below.refl _ _).alloc (Nat.le_refl _) o)
theorem SharedOwn.drew (h : SharedOwn B w C xs s) : SharedOwn B w.drew C xs s := h
theorem SharedOwn.drewN (h : SharedOwn B w C xs s) (n : Nat) : SharedOwn B (w.drewN n) C xs s := h
theorem SharedOwn.other (h : SharedOwn B w C xs s) {p : Addr} (hp : p.block < B ∨ C ≤ p.block) (v : Value) : SharedOwn B (w.setCell p v) C xs s := by
  obtain ⟨u, v', h1, h2, h3, h4⟩ := h
  exact ⟨u, v', h1, h2.other hp v, h3.other hp v, h4⟩
theorem SharedOwn.mono {B' C' : Nat} (h : SharedOwn B w C xs s) (h1 : B' ≤ B) (h2 : C ≤ C') : SharedOwn B' w C' xs s := by
  obtain ⟨u, v, h0, a, b, h4⟩ := h
  exact ⟨u, v, h0, a.mono h1 h2, b.mono h1 h2, h4⟩
theorem SharedOwn.grown1 (h : SharedOwn B w C xs s) {R : Nat} (hg : w.grownBy w' (some R)) (hR : R < B) : SharedOwn B w' C xs s := h.gin (GIn.of_grown hg (Nat.le_refl R) (Nat.lt_succ_self R)) (.inr hR)
theorem SharedOwn.copy {A : Option Addr} {n c : Nat} {y0 : Value} (h : SharedOwn B w C [y0, .slice A n c] s) {k : Nat} (hk : k < s.cps.length) :
    ∃ g, A = some ⟨g, 0, none⟩ ∧ B ≤ g ∧ g < C ∧ g < w.heap.size ∧ n = s.cps.length ∧ n ≤ c ∧ (∀ o, w.frozen? ⟨g, o, none⟩ = false) ∧ w.cell? ⟨g, k * 2, none⟩ = some (.int .i64 s.cps[k].val) ∧ w.cell? ⟨g, k * 2 + 1, none⟩ = some (.int .i64 s.cps[k].usr) ∧
      (∀ x : Int, SharedOwn B (w.setCell ⟨g, k * 2, none⟩ (.int .i64 x)) C [y0, .slice A n c] ⟨s.whr, s.cps.set k ⟨x, s.cps[k].usr⟩⟩) ∧
      (∀ x : Int, SharedOwn B (w.setCell ⟨g, k * 2 + 1, none⟩ (.int .i64 x)) C [y0, .slice A n c] ⟨s.whr, s.cps.set k ⟨s.cps[k].val, x⟩⟩) := by
  obtain ⟨u, v, h1, ⟨A2, c2, g2, rfl, hr2, hg2⟩, ⟨A1, c1, g, rfl, hr, hg⟩, hap⟩ := h
  simp only [List.cons.injEq, and_true, Value.slice.injEq] at h1
  obtain ⟨rfl, rfl, rfl, rfl⟩ := h1
  have hl : 0 < s.cps.length := by omega
  obtain ⟨rfl, hlt, hfz, hcc⟩ := hr.rCopyS hl
  have hg' : B ≤ g ∧ g < C := by rcases hg with hg | hg; cases hg; exact hg
  have hle := hr.le
  have hap' : ∀ a, A2 = some a → a.block ≠ g := fun a ha => hap a s.whr.length c2 ⟨g, 0, none⟩ _ _ (by rw [ha]) rfl
  have key : ∀ (w2 : World) (l : List Cp), w.grownBy w2 (some g) → Row encCopyS w2 g tyCopyS (some ⟨g, 0, none⟩) c l → l.length = s.cps.length → SharedOwn B w2 C [.slice A2 s.whr.length c2, .slice (some ⟨g, 0, none⟩) s.cps.length c] ⟨s.whr, l⟩ := by
    intro w2 l hgr hrow hll
    refine ⟨_, _, rfl, ⟨A2, c2, g2, rfl, ?_, hg2⟩, ⟨_, _, g, by rw [hll], hrow, .inr hg'⟩, hap⟩
    rcases hr2 with hr2 | ⟨cur, rfl, r⟩
    · exact .inl hr2
    · exact Row.grown (.inr ⟨cur, rfl, r⟩) hgr (hap' _ rfl)
  exact ⟨g, rfl, hg'.1, hg'.2, hlt, rfl, hle, hfz, (hcc k hk).1, (hcc k hk).2, fun x => key _ _ (grownBy_setCell _ _ _ _) (hr.setACopyS hk x) (by simp), fun x => key _ _ (grownBy_setCell _ _ _ _) (hr.setBCopyS hk x) (by simp)⟩
theorem SharedOwn.sector {A : Option Addr} {n c : Nat} {y1 : Value} (h : SharedOwn B w C [.slice A n c, y1] s) {k : Nat} (hk : k < s.whr.length) :
    ∃ g, A = some ⟨g, 0, none⟩ ∧ B ≤ g ∧ g < C ∧ g < w.heap.size ∧ n = s.whr.length ∧ n ≤ c ∧ (∀ o, w.frozen? ⟨g, o, none⟩ = false) ∧ w.cell? ⟨g, k, none⟩ = some (.int .i64 s.whr[k]) ∧
      (∀ x : Int, SharedOwn B (w.setCell ⟨g, k, none⟩ (.int .i64 x)) C [.slice A n c, y1] ⟨s.whr.set k x, s.cps⟩) := by
  obtain ⟨u, v, h1, ⟨A1, c1, g, rfl, hr, hg⟩, ⟨A2, c2, g2, rfl, hr2, hg2⟩, hap⟩ := h
  simp only [List.cons.injEq, and_true, Value.slice.injEq] at h1
  obtain ⟨⟨rfl, rfl, rfl⟩, rfl⟩ := h1
  have hl : 0 < s.whr.length := by omega
  obtain ⟨rfl, hlt, hfz, hcc⟩ := hr.int hl
  have hg' : B ≤ g ∧ g < C := by rcases hg with hg | hg; cases hg; exact hg
  have hle := hr.le
  have hap' : ∀ a, A2 = some a → a.block ≠ g := fun a ha e => hap ⟨g, 0, none⟩ _ _ a s.cps.length c2 rfl (by rw [ha]) e.symm
  refine ⟨g, rfl, hg'.1, hg'.2, hlt, rfl, hle, hfz, hcc k hk, fun x => ?_⟩
  refine ⟨_, _, rfl, ⟨_, c, g, by simp, hr.setInt hk x, .inr hg'⟩, ⟨A2, c2, g2, rfl, ?_, hg2⟩, hap⟩
  rcases hr2 with hr2 | ⟨cur, rfl, r⟩
  · exact .inl hr2
  · exact Row.grown (.inr ⟨cur, rfl, r⟩) (grownBy_setCell _ _ _ _) (hap' _ rfl)
theorem SharedOwn.rowsX {A1 A2 : Option Addr} {n1 n2 c1 c2 : Nat} (h : SharedOwn B w C [.slice A1 n1 c1, .slice A2 n2 c2] s) (X : Nat) (hX : C ≤ X ∨ X < B) :
    ∃ g1 g2, Row eInt w g1 3 A1 c1 s.whr ∧ Row encCopyS w g2 tyCopyS A2 c2 s.cps ∧ n1 = s.whr.length ∧ n2 = s.cps.length ∧ B ≤ g1 ∧ B ≤ g2 ∧ g1 ≠ X ∧ g2 ≠ X ∧ g1 ≠ g2 := by
  obtain ⟨u, v, h1, o1, o2, hap⟩ := h
  simp only [List.cons.injEq, and_true] at h1
  obtain ⟨rfl, rfl⟩ := h1
  obtain ⟨A, c, g1, he, r1, h1, -⟩ := o1.row (B + C + X + 1)
  obtain ⟨A', c', g2, he', r2, h2, -⟩ := o2.row (B + C + X + 2)
  cases he; cases he'
  refine ⟨g1, g2, r1, r2, rfl, rfl, ?_, ?_, ?_, ?_, ?_⟩
  · rcases h1 with ⟨_, h⟩ | ⟨_, _, _, h, _⟩ <;> omega
  · rcases h2 with ⟨_, h⟩ | ⟨_, _, _, h, _⟩ <;> omega
  · rcases h1 with ⟨_, h⟩ | ⟨_, _, _, h, _⟩ <;> omega
  · rcases h2 with ⟨_, h⟩ | ⟨_, _, _, h, _⟩ <;> omega
  · rcases h1 with ⟨_, h⟩ | ⟨a, rfl, ha, h, h'⟩
    · rcases h2 with ⟨_, k⟩ | ⟨_, _, _, _, k⟩ <;> omega
    · rcases h2 with ⟨_, k⟩ | ⟨a', rfl, ha', k, k'⟩
      · omega
      · have := hap a _ _ a' _ _ rfl rfl
        rw [ha, ha'] at this
        exact this
theorem sharedB_nil : sharedB ⟨[], []⟩ = true := by decide
theorem shareB_ok (d : List Int) : sharedB (shareB d) = true := by
  cases h : diskB d
  · rw [shareB_no h]; exact sharedB_nil
  · exact (shareB_valid h).1
theorem putS_ok {s : Sh} (_h : sharedB s = true) (a v : Int) : sharedB (putS s a v) = true := by
  unfold putS
  split
  · rename_i hp
    simp only [putOk, Bool.and_eq_true] at hp
    obtain ⟨⟨h1, h2⟩, h3⟩ := hp
    obtain ⟨a0, a1⟩ := inB_true.1 h2
    exact (putSh_ok h1 (by omega) (inB_true.1 h3)).1
  · exact sharedB_nil
theorem shared_first {s : Sh} (h : sharedB s = true) (h0 : 0 < s.cps.length) : 0 < s.whr.length ∧ 1 ≤ (s.cps[0]'h0).usr ∧ (s.cps[0]'h0).usr ≤ 64 := by
  obtain ⟨h1, h2, h3⟩ := sharedB_iff.1 h
  have a := h3 _ (List.getElem_mem h0)
  have b := h2.usr 0 h0
  have c := List.count_le_length (a := ((0 : Nat) : Int)) (l := s.whr)
  omega
end
/-- A drawn volume. -/
def DrawnShared (w : World) (B R : Nat) (p : Int) (e : Ending) (w' : World) : Prop :=
  ∃ y0 y1 s p', e = .returned (.agg #[y0, y1]) ∧ SharedOwn w.heap.size w' w'.heap.size [y0, y1] s ∧ sizeShared s ≤ 400 ∧ Rdr w' 74 B R p' ∧ p ≤ p' ∧ p' ≤ p + 300 ∧ w.grownBy w' (some R)
set_option linter.unusedSimpArgs false in
set_option maxHeartbeats 8000000 in
theorem l20Shared_any (B R : Nat) (p n : Int) (w : World) (h : Rdr w 74 B R p) (hp0 : 0 ≤ p) (hp1 : p ≤ 100000000) (hn1 : 1 ≤ n) (hn : n ≤ 1000000) :
    Calls Try.prog 54 #[.pointer (some ⟨R, 0, none⟩), .int .i64 n] w (DrawnShared w B R p) := by
  have hBR := h.ge
  have hRl := h.lt
  have L4 := Loc.new w [.slice none 0 0, .slice none 0 0] 30
  go_enter Try.func54, Try.ntmps54
  go_wp2_with fail
  refine (l20Disk_any B R p 10 0 _ (by ((repeat (first | with_reducible assumption | with_reducible refine Rdr.drew ?_ | with_reducible refine Rdr.drewN ?_ _ | with_reducible refine Rdr.alloc ?_ _ | with_reducible refine Rdr.other ?_ _ _ ?_ ?_ | omega)); done)) (by omega) (by omega) (by omega) (by omega) (by omega) (by omega)).mono ?_
  rintro e w1 ⟨A1, c1, g1, d, p1, rfl, hgd, hgdR, rowd, hd65, hR1, hp1a, hp1b, hg1⟩
  have hz1 := hg1.size
  (try simp at hz1)
  (try simp at hgd)
  replace L4 := Loc.carry L4 (fun h => by ((repeat (first | with_reducible exact h | with_reducible refine Loc.drew ?_ | with_reducible refine Loc.drewN ?_ _ | with_reducible refine Loc.alloc ?_ _)); done)) hg1 (by omega)
  have HG1 := Lib.hid (grownBy_trans (grownBy_alloc (grownBy_refl w (some R)) _) hg1)
  have HRD := Lib.hid rowd.rd
  have hlt1 := hR1.lt
  clear hg1 rowd
  go_wp2_with fail
  refine (specShare_c A1 c1 d _ HRD.out (by omega)).mono ?_
  obtain ⟨s0, hs0⟩ : ∃ s, s = shareB d := ⟨_, rfl⟩
  have hsz0 := shareB_size d
  have hok0 := shareB_ok d
  rw [← hs0] at hsz0 hok0 ⊢
  clear hs0
  rintro e w2 ⟨y0, y1, rfl, O2, hb2⟩
  replace L4 := Loc.carryB L4 (fun h => by ((repeat (first | with_reducible exact h | with_reducible refine Loc.drew ?_ | with_reducible refine Loc.drewN ?_ _ | with_reducible refine Loc.alloc ?_ _)); done)) hb2
  have hR2 := hR1.below hb2
  have HG2 := Lib.hid (grownBy_below HG1.out hb2)
  have hz2 := hb2.size
  have hlt2 := hR2.lt
  have O2' := SharedOwn.rd O2
  obtain ⟨Ay, cy, Ay', cy', rfl, rfl⟩ := sharedRd_lens O2'
  have HO := Lib.hid O2
  have LS := Loc.newAt w2 [.slice Ay s0.whr.length cy, .slice Ay' s0.cps.length cy'] 30 (b := w2.heap.size) rfl
  clear hb2 O2 O2' HRD
  have ne2 : w2.heap.size ≠ R := by omega
  go_wp2_with fail
  refine (pick_any B R (p1) (6) _ (by ((repeat (first | with_reducible assumption | with_reducible refine Rdr.drew ?_ | with_reducible refine Rdr.drewN ?_ _ | with_reducible refine Rdr.alloc ?_ _ | with_reducible refine Rdr.other ?_ _ _ ?_ ?_ | omega)); done)) (by omega) (by omega) (by omega)).mono ?_
  rintro e w3 ⟨r3, rfl, a3, b3, hR3, hg3⟩
  have b3' := b3 (by omega)
  clear b3
  replace hR3 := hR3.to (p' := p1 + 1) (by omega)
  have hz3 := hg3.size
  (try simp at hz3)
  have hlt3 := hR3.lt
  have ne3 : w3.heap.size ≠ R := by omega
  replace L4 := Loc.carry L4 (fun h => by ((repeat (first | with_reducible exact h | with_reducible refine Loc.drew ?_ | with_reducible refine Loc.drewN ?_ _ | with_reducible refine Loc.alloc ?_ _)); done)) hg3 (by omega)
  replace LS := Loc.carry LS (fun h => by ((repeat (first | with_reducible exact h | with_reducible refine Loc.drew ?_ | with_reducible refine Loc.drewN ?_ _ | with_reducible refine Loc.alloc ?_ _)); done)) hg3 (by omega)
  have HG3 := Lib.hid (grownBy_trans (grownBy_alloc HG2.out _) hg3)
  have HO3 := Lib.hid (SharedOwn.grown1 (SharedOwn.alloc HO.out (.cells #[.slice Ay s0.whr.length cy, .slice Ay' s0.cps.length cy'] 30)) hg3 (by omega))
  clear hg3
  have hXle : w.heap.size < w2.heap.size := by omega
  have hRX : R < w2.heap.size := by omega
  have HO3' := Lib.hid (SharedOwn.mono (B' := w1.heap.size) (C' := w2.heap.size) HO3.out (Nat.le_refl _) (by omega))
  clear HO3 HO
  go_wp2
  go_loopw [6] (fun kk wr => ∃ k q : Int, kk = .int .i64 k ∧ 0 ≤ k ∧ k ≤ 5 ∧ p ≤ q ∧ q + 2 * k ≤ p + 230 ∧ Rdr wr 74 B R q ∧ w.grownBy wr (some R) ∧ Loc wr w.heap.size [.slice none 0 0, .slice none 0 0] ∧ ∃ (A1 : Option Addr) (c1 : Nat) (A2 : Option Addr) (c2 : Nat) (s : Sh) (Bs Cs : Nat), Loc wr w2.heap.size [.slice A1 s.whr.length c1, .slice A2 s.cps.length c2] ∧ Hid (sharedB s = true) ∧ ((sizeShared s : Nat) : Int) + k ≤ 210 ∧ SharedOwn Bs wr Cs [.slice A1 s.whr.length c1, .slice A2 s.cps.length c2] s ∧ (Cs ≤ w2.heap.size ∨ w2.heap.size < Bs) ∧ R < Bs ∧ w.heap.size < Bs ∧ Cs ≤ wr.heap.size) (fun kk _ => (intOf kk).toNat)
  case atStart => exact ⟨r3, p1 + 1, rfl, by omega, by omega, by omega, by omega, hR3, HG3.out, L4, Ay, cy, Ay', cy', s0, w1.heap.size, w2.heap.size, LS, Lib.hid hok0, by omega, HO3'.out, .inl (Nat.le_refl _), by omega, by omega, by omega⟩
  case round =>
    obtain ⟨k, q, rfl, k0, k1, q0, q1, hRq, hgw, L4, A1, c1, A2, c2, s, Bs, Cs, LS, HV, hsz, hown, hXs, hRB, hwB, hCs⟩ := hrel
    have hzw := hgw.size
    have hRr := hRq.lt
    have zS := LS.lt
    have z4 := L4.lt
    have HOW := Lib.hid hown
    have HGW := Lib.hid hgw
    obtain ⟨x0, x1, xf⟩ := LS.two
    have hsw : s.whr.length ≤ 210 := by unfold sizeShared at hsz; omega
    have hsc : s.cps.length ≤ 210 := by unfold sizeShared at hsz; omega
    clear hown hgw
    by_cases hk : 0 < k
    · by_cases hw0 : 0 < s.whr.length
      · have hw0' : (0 : Int) < (s.whr.length : Int) := by omega
        have hPB := Lib.hid (putS_ok HV.out)
        have hPZ := Lib.hid (putS_size s)
        have hszs : Hid (sizeShared s ≤ 1099511627776) := Lib.hid (by omega)
        go_wp2_with fail
        go_region_with (first
          | (go_at_call 55; (with_reducible refine (pick_any B R q s.whr.length _ (by ((repeat (first | with_reducible assumption | with_reducible refine Rdr.drew ?_ | with_reducible refine Rdr.drewN ?_ _ | with_reducible refine Rdr.alloc ?_ _ | with_reducible refine Rdr.other ?_ _ _ ?_ ?_ | omega)); done)) (by omega) (by omega) (by omega)).mono ?_); rintro e w4 ⟨r4, rfl, a4, b4, hR4, hg4⟩; clear b4; have LS4 := Loc.carry LS (fun h => by ((repeat (first | with_reducible exact h | with_reducible refine Loc.drew ?_ | with_reducible refine Loc.drewN ?_ _ | with_reducible refine Loc.alloc ?_ _)); done)) hg4 (by omega); have L44 := Loc.carry L4 (fun h => by ((repeat (first | with_reducible exact h | with_reducible refine Loc.drew ?_ | with_reducible refine Loc.drewN ?_ _ | with_reducible refine Loc.alloc ?_ _)); done)) hg4 (by omega); have HOW4 := Lib.hid (SharedOwn.grown1 (SharedOwn.drew HOW.out) hg4 hRB); have HGW4 := Lib.hid (grownBy_trans (grownBy_drew HGW.out) hg4); obtain ⟨y0, y1, yf⟩ := LS4.two; have hz4 := hg4.size; (try simp at hz4); have zS4 := LS4.lt; have ne4 : w2.heap.size ≠ R := (by omega); clear hg4)
          | (go_at_call 55; (with_reducible refine (pick_any B R (q + 1) 4 _ (by ((repeat (first | with_reducible assumption | with_reducible refine Rdr.drew ?_ | with_reducible refine Rdr.drewN ?_ _ | with_reducible refine Rdr.alloc ?_ _ | with_reducible refine Rdr.other ?_ _ _ ?_ ?_ | omega)); done)) (by omega) (by omega) (by omega)).mono ?_); rintro e w5 ⟨r5, rfl, a5, b5, hR5, hg5⟩; clear b5; have LS5 := Loc.carry LS4 (fun h => by ((repeat (first | with_reducible exact h | with_reducible refine Loc.drew ?_ | with_reducible refine Loc.drewN ?_ _ | with_reducible refine Loc.alloc ?_ _)); done)) hg5 (by omega); have L45 := Loc.carry L44 (fun h => by ((repeat (first | with_reducible exact h | with_reducible refine Loc.drew ?_ | with_reducible refine Loc.drewN ?_ _ | with_reducible refine Loc.alloc ?_ _)); done)) hg5 (by omega); have HOW5 := Lib.hid (SharedOwn.grown1 HOW4.out hg5 hRB); have HGW5 := Lib.hid (grownBy_trans HGW4.out hg5); obtain ⟨z0, z1, zf⟩ := LS5.two; have hz5 := hg5.size; (try simp at hz5); have zS5 := LS5.lt; clear hg5)
          | (go_at_call 35; (with_reducible refine (specPut_c (.slice A1 s.whr.length c1) (.slice A2 s.cps.length c2) s r4 r5 _ (SharedOwn.rd HOW5.out) hszs.out).mono ?_); have hpb := hPB.out r4 r5; have hpz := hPZ.out r4 r5; obtain ⟨s', hs'⟩ : ∃ s', s' = putS s r4 r5 := ⟨_, rfl⟩; rw [← hs']; rw [← hs'] at hpb hpz; clear hs'; have HPB := Lib.hid hpb; clear hpb; rintro e w6 ⟨u0, u1, rfl, O6, hb6⟩; obtain ⟨A5, c5, A6, c6, rfl, rfl⟩ := sharedRd_lens (SharedOwn.rd O6); have LS6 := Loc.carryB LS5 (fun h => by ((repeat (first | with_reducible exact h | with_reducible refine Loc.drew ?_ | with_reducible refine Loc.drewN ?_ _ | with_reducible refine Loc.alloc ?_ _)); done)) hb6; have L46 := Loc.carryB L45 (fun h => by ((repeat (first | with_reducible exact h | with_reducible refine Loc.drew ?_ | with_reducible refine Loc.drewN ?_ _ | with_reducible refine Loc.alloc ?_ _)); done)) hb6; have hR6 := hR5.below hb6; have HGW6 := Lib.hid (grownBy_below HGW5.out hb6); obtain ⟨v0, v1, vf⟩ := LS6.two; have HO6 := Lib.hid O6; have hz6 := hb6.size; (try simp at hz6); have zS6 := LS6.lt; clear hb6 O6))
        all_goals
          go_wp2
          go_roundw
          case rel =>
            refine ⟨k - 1, q + 1 + 1, rfl, by omega, by omega, by omega, by omega, (by ((repeat (first | with_reducible assumption | with_reducible refine Rdr.drew ?_ | with_reducible refine Rdr.drewN ?_ _ | with_reducible refine Rdr.alloc ?_ _ | with_reducible refine Rdr.other ?_ _ _ ?_ ?_ | omega)); done)), (by repeat (first | with_reducible exact HGW6.out | with_reducible refine grownBy_drew ?_ | with_reducible refine grownBy_drewN ?_ _ | with_reducible refine grownBy_alloc ?_ _ | (with_reducible refine grownBy_below ?_ (by assumption)) | ((with_reducible refine grownBy_set ?_ ?_ _ _); rotate_left; (focus (first | omega | (simp; omega) | (simp; done)))) | ((with_reducible refine grownBy_trans ?_ (by assumption)); done) | ((with_reducible refine grownBy_new (by assumption) ?_ ?_); (focus (first | omega | (simp; omega) | (simp; done)))))), (by repeat (first | with_reducible assumption | with_reducible apply Loc.fill3 | with_reducible apply Loc.fill2 | ((with_reducible refine Loc.newAt' ?_ rfl); (focus (first | with_reducible rfl | omega | (simp; omega) | (simp; done)))) | with_reducible refine Loc.drew ?_ | with_reducible refine Loc.drewN ?_ _ | with_reducible refine Loc.alloc ?_ _ | (with_reducible refine Loc.below ?_ (by assumption)) | ((with_reducible refine Loc.other' ?_ ?_ _); (focus (first | omega | (simp; omega) | (simp; done)))) | ((with_reducible refine Loc.far' (by assumption) ?_ ?_); (focus (first | omega | (simp; omega) | (simp; done)))))), A5, c5, A6, c6, s', w5.heap.size, w6.heap.size, (by repeat (first | with_reducible assumption | with_reducible apply Loc.fill3 | with_reducible apply Loc.fill2 | ((with_reducible refine Loc.newAt' ?_ rfl); (focus (first | with_reducible rfl | omega | (simp; omega) | (simp; done)))) | with_reducible refine Loc.drew ?_ | with_reducible refine Loc.drewN ?_ _ | with_reducible refine Loc.alloc ?_ _ | (with_reducible refine Loc.below ?_ (by assumption)) | ((with_reducible refine Loc.other' ?_ ?_ _); (focus (first | omega | (simp; omega) | (simp; done)))) | ((with_reducible refine Loc.far' (by assumption) ?_ ?_); (focus (first | omega | (simp; omega) | (simp; done)))))), HPB, by omega, (by repeat (first | with_reducible exact HO6.out | with_reducible refine SharedOwn.drew ?_ | with_reducible refine SharedOwn.drewN ?_ _ | with_reducible refine SharedOwn.alloc ?_ _ | (with_reducible refine SharedOwn.below ?_ (by assumption)) | ((with_reducible refine SharedOwn.other ?_ ?_ _); rotate_left; (focus (first | omega | (simp; omega) | (simp; done)))))), .inr (by omega), by omega, by omega, by first | omega | (simp; omega) | (simp; done)⟩
          case measure => simp [intOf]; omega
      · have hw0' : ¬ (0 : Int) < (s.whr.length : Int) := by omega
        have hc0' : ¬ (0 : Int) < (s.cps.length : Int) := by
          intro hc
          have := (shared_first HV.out (by omega)).1
          omega
        obtain ⟨v0, v1, vf⟩ := L4.two
        go_wp2
        refine bodyPost_ret (v := .agg #[.slice A1 s.whr.length c1, .slice A2 s.cps.length c2]) (by simp [results, Try.results54, go_sem, *]; done) rfl ?_
        exact ⟨_, _, s, q, rfl, SharedOwn.mono (B := Bs) (C := Cs) (by repeat (first | with_reducible exact HOW.out | with_reducible refine SharedOwn.drew ?_ | with_reducible refine SharedOwn.drewN ?_ _ | with_reducible refine SharedOwn.alloc ?_ _ | (with_reducible refine SharedOwn.below ?_ (by assumption)) | ((with_reducible refine SharedOwn.other ?_ ?_ _); rotate_left; (focus (first | omega | (simp; omega) | (simp; done)))))) (by omega) (by first | omega | (simp; omega) | (simp; done)), by first | omega | (unfold sizeShared at hsz ⊢; simp; omega), (by ((repeat (first | with_reducible assumption | with_reducible refine Rdr.drew ?_ | with_reducible refine Rdr.drewN ?_ _ | with_reducible refine Rdr.alloc ?_ _ | with_reducible refine Rdr.other ?_ _ _ ?_ ?_ | omega)); done)), by omega, by omega, (by repeat (first | with_reducible exact HGW.out | with_reducible refine grownBy_drew ?_ | with_reducible refine grownBy_drewN ?_ _ | with_reducible refine grownBy_alloc ?_ _ | (with_reducible refine grownBy_below ?_ (by assumption)) | ((with_reducible refine grownBy_set ?_ ?_ _ _); rotate_left; (focus (first | omega | (simp; omega) | (simp; done)))) | ((with_reducible refine grownBy_trans ?_ (by assumption)); done) | ((with_reducible refine grownBy_new (by assumption) ?_ ?_); (focus (first | omega | (simp; omega) | (simp; done))))))⟩
    · by_cases hc0 : 0 < s.cps.length
      · have hc0' : (0 : Int) < (s.cps.length : Int) := by omega
        obtain ⟨hwp, hu1, hu2⟩ := shared_first HV.out hc0
        go_wp2_with fail
        refine (odd_any B R q n _ (by ((repeat (first | with_reducible assumption | with_reducible refine Rdr.drew ?_ | with_reducible refine Rdr.drewN ?_ _ | with_reducible refine Rdr.alloc ?_ _ | with_reducible refine Rdr.other ?_ _ _ ?_ ?_ | omega)); done)) (by omega) (by omega) (by omega) (by omega)).mono ?_
        rintro e w4 ⟨r4, rfl, hR4, hg4⟩
        replace LS := Loc.carry LS (fun h => by ((repeat (first | with_reducible exact h | with_reducible refine Loc.drew ?_ | with_reducible refine Loc.drewN ?_ _ | with_reducible refine Loc.alloc ?_ _)); done)) hg4 (by omega)
        replace L4 := Loc.carry L4 (fun h => by ((repeat (first | with_reducible exact h | with_reducible refine Loc.drew ?_ | with_reducible refine Loc.drewN ?_ _ | with_reducible refine Loc.alloc ?_ _)); done)) hg4 (by omega)
        have HOW4 := Lib.hid (SharedOwn.grown1 HOW.out hg4 hRB)
        have HGW4 := Lib.hid (grownBy_trans HGW.out hg4)
        have hz4 := hg4.size
        have zS4 := LS.lt
        have z44 := L4.lt
        clear hg4 x0 x1 xf
        cases r4
        · obtain ⟨y0, y1, yf⟩ := LS.two
          obtain ⟨v0, v1, vf⟩ := L4.two
          go_wp2
          refine bodyPost_ret (v := .agg #[.slice A1 s.whr.length c1, .slice A2 s.cps.length c2]) (by simp [results, Try.results54, go_sem, *]; done) rfl ?_
          exact ⟨_, _, s, q + 1, rfl, SharedOwn.mono (B := Bs) (C := Cs) (by repeat (first | with_reducible exact HOW4.out | with_reducible refine SharedOwn.drew ?_ | with_reducible refine SharedOwn.drewN ?_ _ | with_reducible refine SharedOwn.alloc ?_ _ | (with_reducible refine SharedOwn.below ?_ (by assumption)) | ((with_reducible refine SharedOwn.other ?_ ?_ _); rotate_left; (focus (first | omega | (simp; omega) | (simp; done)))))) (by omega) (by first | omega | (simp; omega) | (simp; done)), by first | omega | (unfold sizeShared at hsz ⊢; simp; omega), (by ((repeat (first | with_reducible assumption | with_reducible refine Rdr.drew ?_ | with_reducible refine Rdr.drewN ?_ _ | with_reducible refine Rdr.alloc ?_ _ | with_reducible refine Rdr.other ?_ _ _ ?_ ?_ | omega)); done)), by omega, by omega, (by repeat (first | with_reducible exact HGW4.out | with_reducible refine grownBy_drew ?_ | with_reducible refine grownBy_drewN ?_ _ | with_reducible refine grownBy_alloc ?_ _ | (with_reducible refine grownBy_below ?_ (by assumption)) | ((with_reducible refine grownBy_set ?_ ?_ _ _); rotate_left; (focus (first | omega | (simp; omega) | (simp; done)))) | ((with_reducible refine grownBy_trans ?_ (by assumption)); done) | ((with_reducible refine grownBy_new (by assumption) ?_ ?_); (focus (first | omega | (simp; omega) | (simp; done))))))⟩
        · go_wp2_with fail
          refine (pick_any B R (q + 1) (4) _ (by ((repeat (first | with_reducible assumption | with_reducible refine Rdr.drew ?_ | with_reducible refine Rdr.drewN ?_ _ | with_reducible refine Rdr.alloc ?_ _ | with_reducible refine Rdr.other ?_ _ _ ?_ ?_ | omega)); done)) (by omega) (by omega) (by omega)).mono ?_
          rintro e w5 ⟨r5, rfl, a5, b5, hR5, hg5⟩
          have b5' := b5 (by omega)
          clear b5
          replace hR5 := hR5.to (p' := q + 1 + 1) (by omega)
          have hz5 := hg5.size
          (try simp at hz5)
          have hlt5 := hR5.lt
          have ne5 : w5.heap.size ≠ R := by omega
          replace LS := Loc.carry LS (fun h => by ((repeat (first | with_reducible exact h | with_reducible refine Loc.drew ?_ | with_reducible refine Loc.drewN ?_ _ | with_reducible refine Loc.alloc ?_ _)); done)) hg5 (by omega)
          replace L4 := Loc.carry L4 (fun h => by ((repeat (first | with_reducible exact h | with_reducible refine Loc.drew ?_ | with_reducible refine Loc.drewN ?_ _ | with_reducible refine Loc.alloc ?_ _)); done)) hg5 (by omega)
          have HOW5 := Lib.hid (SharedOwn.grown1 HOW4.out hg5 hRB)
          have HGW5 := Lib.hid (grownBy_trans HGW4.out hg5)
          have zS5 := LS.lt
          have z45 := L4.lt
          clear hg5 HOW4 HGW4
          obtain ⟨y0, y1, yf⟩ := LS.two
          obtain ⟨v0, v1, vf⟩ := L4.two
          have hcase : r5 = 0 ∨ r5 = 1 ∨ r5 = 2 ∨ r5 = 3 := by omega
          rcases hcase with rfl | rfl | rfl | rfl
          · obtain ⟨g, rfl, hgB, hgC, hgl, -, hcc, hfz, hc1, hc2, -, hsetB⟩ := HOW5.out.copy hc0
            have hS := hsetB ((s.cps[0]'hc0).usr + 1)
            have hfz0 := hfz (0 * 2 + 1)
            rw [Nat.zero_mul, Nat.zero_add] at hc2 hfz0 hS
            have HS := Lib.hid hS
            have hgX : g ≠ w2.heap.size := by omega
            have hgW : g ≠ w.heap.size := by omega
            obtain ⟨us, hus⟩ : ∃ us, us = (s.cps[0]'hc0).usr := ⟨_, rfl⟩
            rw [← hus] at hc2 HS hu1 hu2
            clear hsetB hfz hS hus
            go_wp2
            go_still_tail 10, (by kernel_rfl)
            change wpList _ _ _ _ _ w5.drew
            go_wp2
            refine bodyPost_ret (v := .agg #[.slice A1 s.whr.length c1, .slice (some ⟨g, 0, none⟩) s.cps.length c2]) (by simp [results, Try.results54, go_sem, *]; done) rfl ?_
            exact ⟨_, _, ⟨s.whr, s.cps.set 0 ⟨(s.cps[0]'hc0).val, us + 1⟩⟩, q + 1 + 1, rfl, SharedOwn.mono (B := Bs) (C := Cs) (by repeat (first | with_reducible exact HS.out | with_reducible refine SharedOwn.drew ?_ | with_reducible refine SharedOwn.drewN ?_ _ | with_reducible refine SharedOwn.alloc ?_ _ | (with_reducible refine SharedOwn.below ?_ (by assumption)) | ((with_reducible refine SharedOwn.other ?_ ?_ _); rotate_left; (focus (first | omega | (simp; omega) | (simp; done)))))) (by omega) (by first | omega | (simp; omega) | (simp; done)), by first | omega | (unfold sizeShared at hsz ⊢; simp; omega), (by ((repeat (first | with_reducible assumption | with_reducible refine Rdr.drew ?_ | with_reducible refine Rdr.drewN ?_ _ | with_reducible refine Rdr.alloc ?_ _ | with_reducible refine Rdr.other ?_ _ _ ?_ ?_ | omega)); done)), by omega, by omega, (by repeat (first | with_reducible exact HGW5.out | with_reducible refine grownBy_drew ?_ | with_reducible refine grownBy_drewN ?_ _ | with_reducible refine grownBy_alloc ?_ _ | (with_reducible refine grownBy_below ?_ (by assumption)) | ((with_reducible refine grownBy_set ?_ ?_ _ _); rotate_left; (focus (first | omega | (simp; omega) | (simp; done)))) | ((with_reducible refine grownBy_trans ?_ (by assumption)); done) | ((with_reducible refine grownBy_new (by assumption) ?_ ?_); (focus (first | omega | (simp; omega) | (simp; done))))))⟩
          · obtain ⟨g1, g2, row1, row2, -, -, hg1B, hg2B, hg1X, hg2X, hg12⟩ := HOW5.out.rowsX w2.heap.size hXs
            have hg1l := row1.lt hwp
            have H1 := Lib.hid row1
            have H2 := Lib.hid row2
            clear row1 row2
            go_wp2_with (at_builtin; refine wpList_append_row rfl _ _ rfl elCopyS rfl (Row.alloc H2.out _) _ _ [(⟨9, 0⟩ : Cp)] rfl (Rd.lit rfl rfl) (by simp only [maxLen, List.length_cons, List.length_nil]; omega) (by simp only [List.length_cons, List.length_nil]; omega) ?_; intro A6 c6 g6 w6 l6 hl6 hle1 hle2 hrow6 hg6 hgg6; have LS6 := Loc.carry LS (fun h => by ((repeat (first | with_reducible exact h | with_reducible refine Loc.drew ?_ | with_reducible refine Loc.drewN ?_ _ | with_reducible refine Loc.alloc ?_ _)); done)) hg6 (Ne.symm hg2X); have L46 := Loc.carry L4 (fun h => by ((repeat (first | with_reducible exact h | with_reducible refine Loc.drew ?_ | with_reducible refine Loc.drewN ?_ _ | with_reducible refine Loc.alloc ?_ _)); done)) hg6 (by omega); obtain ⟨u0, u1, uf⟩ := LS6.two; obtain ⟨t0, t1, tf⟩ := L46.two; have zS6 := LS6.lt; have z46 := L46.lt; simp only [List.length_cons, List.length_nil] at hle1 hle2; have hz6 := hg6.size; (try simp at hz6); (try simp at hgg6))
            have hR6 : Rdr w6 74 B R (q + 1 + 1) := Rdr.grown (Rdr.alloc hR5 (.cells #[.int .i64 9, .int .i64 0] 47)) hg6 (by omega) (by omega)
            have HGW6 : Hid (w.grownBy w6 (some R)) := Lib.hid (grownBy_new hg6 (by omega) (grownBy_alloc HGW5.out _))
            have H16 := Lib.hid (Row.grown (Row.alloc H1.out (.cells #[.int .i64 9, .int .i64 0] 47)) hg6 hg12)
            refine bodyPost_ret (v := .agg #[.slice A1 s.whr.length c1, .slice A6 l6.length c6]) (by simp [results, Try.results54, go_sem, *]; done) rfl ?_
            exact ⟨_, _, ⟨s.whr, l6⟩, q + 1 + 1, rfl, sharedOwn_rown (g1 := g1) (g2 := g6) (by repeat (first | with_reducible exact H16.out | with_reducible refine Row.drew ?_ | with_reducible refine Row.drewN ?_ _ | with_reducible refine Row.alloc ?_ _ | (with_reducible refine Row.below ?_ (by assumption)) | ((with_reducible refine Row.other ?_ ?_ _); rotate_left; (focus (first | omega | (simp; omega) | (simp; done)))) | ((with_reducible refine Row.far' (by assumption) ?_ ?_); (focus (first | omega | (simp; omega) | (simp; done)))))) (by repeat (first | with_reducible exact hrow6 | with_reducible refine Row.drew ?_ | with_reducible refine Row.drewN ?_ _ | with_reducible refine Row.alloc ?_ _ | (with_reducible refine Row.below ?_ (by assumption)) | ((with_reducible refine Row.other ?_ ?_ _); rotate_left; (focus (first | omega | (simp; omega) | (simp; done)))) | ((with_reducible refine Row.far' (by assumption) ?_ ?_); (focus (first | omega | (simp; omega) | (simp; done)))))) rfl rfl (by omega) (by omega) (by omega), by unfold sizeShared at hsz ⊢; simp; omega, (by ((repeat (first | with_reducible assumption | with_reducible refine Rdr.drew ?_ | with_reducible refine Rdr.drewN ?_ _ | with_reducible refine Rdr.alloc ?_ _ | with_reducible refine Rdr.other ?_ _ _ ?_ ?_ | omega)); done)), by omega, by omega, (by repeat (first | with_reducible exact HGW6.out | with_reducible refine grownBy_drew ?_ | with_reducible refine grownBy_drewN ?_ _ | with_reducible refine grownBy_alloc ?_ _ | (with_reducible refine grownBy_below ?_ (by assumption)) | ((with_reducible refine grownBy_set ?_ ?_ _ _); rotate_left; (focus (first | omega | (simp; omega) | (simp; done)))) | ((with_reducible refine grownBy_trans ?_ (by assumption)); done) | ((with_reducible refine grownBy_new (by assumption) ?_ ?_); (focus (first | omega | (simp; omega) | (simp; done))))))⟩
          · obtain ⟨g, rfl, hgB, hgC, hgl, -, hcc, hfz, hc1, hset⟩ := HOW5.out.sector hwp
            have HSET := Lib.hid hset
            have hfz0 := hfz 0
            have hgX : g ≠ w2.heap.size := by omega
            have hgW : g ≠ w.heap.size := by omega
            have hgR : g ≠ R := by omega
            clear hset hfz
            go_wp2
            refine wp_region_noPanic ?_
            refine wp_region_held_drew (S := fun w' => w'.cell? ⟨w2.heap.size, 0, none⟩ = some (.slice (some ⟨g, 0, none⟩) s.whr.length c1) ∧ w'.cell? ⟨w2.heap.size, 1, none⟩ = some (.slice A2 s.cps.length c2)) (by kernel_rfl) ?_ (fun hHeld => ?_)
            focus (exact ⟨y0, y1⟩)
            (refine wpAnyH_take (i := 0) (oi := _) (v := ?_) rfl (by kernel_rfl) (by kernel_rfl) (by kernel_rfl) (fun _ _ _ h => h) (Or.inl ⟨by rfl, ?_⟩) (by assumption) ?_; rotate_left; (focus (intro wS hSw; (try dsimp only at hSw); go_simp; (try with_reducible rfl); done)); (try simp only [Act.put, List.setIfInBounds_toArray, List.set_cons_zero, List.set_cons_succ]))
            (refine wpAnyH_take (i := 1) (oi := _) (v := ?_) rfl (by kernel_rfl) (by kernel_rfl) (by kernel_rfl) (fun _ _ _ h => h) (Or.inl ⟨by rfl, ?_⟩) (by assumption) ?_; rotate_left; (focus (intro wS hSw; (try dsimp only at hSw); go_simp; (try with_reducible rfl); done)); (try simp only [Act.put, List.setIfInBounds_toArray, List.set_cons_zero, List.set_cons_succ]))
            (refine wpAnyH_take (i := 2) (oi := _) (v := ?_) rfl (by kernel_rfl) (by kernel_rfl) (by kernel_rfl) (fun _ _ _ h => h) (Or.inl ⟨by rfl, ?_⟩) (by assumption) ?_; rotate_left; (focus (intro wS hSw; (try dsimp only at hSw); go_simp; (try with_reducible rfl); done)); (try simp only [Act.put, List.setIfInBounds_toArray, List.set_cons_zero, List.set_cons_succ]))
            (refine wpAnyH_take (i := 3) (oi := _) (v := ?_) rfl (by kernel_rfl) (by kernel_rfl) (by kernel_rfl) (fun _ _ _ h => h) (Or.inl ⟨by rfl, ?_⟩) (by assumption) ?_; rotate_left; (focus (intro wS hSw; (try dsimp only at hSw); go_simp; (try with_reducible rfl); done)); (try simp only [Act.put, List.setIfInBounds_toArray, List.set_cons_zero, List.set_cons_succ]))
            (refine wpAnyH_take (i := 4) (oi := _) (v := ?_) rfl (by kernel_rfl) (by kernel_rfl) (by kernel_rfl) (fun _ _ _ h => h) (Or.inl ⟨by rfl, ?_⟩) (by assumption) ?_; rotate_left; (focus (intro wS hSw; (try dsimp only at hSw); go_simp; (try with_reducible rfl); done)); (try simp only [Act.put, List.setIfInBounds_toArray, List.set_cons_zero, List.set_cons_succ]))
            (refine wpAnyH_take (i := 6) (oi := _) (v := ?_) rfl (by kernel_rfl) (by kernel_rfl) (by kernel_rfl) (fun _ _ _ h => h) (Or.inl ⟨by rfl, ?_⟩) (by assumption) ?_; rotate_left; (focus (intro wS hSw; (try dsimp only at hSw); go_simp; (try with_reducible rfl); done)); (try simp only [Act.put, List.setIfInBounds_toArray, List.set_cons_zero, List.set_cons_succ]))
            refine wpAnyH_ready (rs := [5, 7]) (by kernel_rfl) (by simp) ?_
            refine AllReadyH.cons (o := _) rfl (fun K hK => ?_) (AllReadyH.cons (o := _) rfl (fun K hK => ?_) AllReadyH.nil)
            · go_simp
              refine hK.out _ _ ?_ (fun hHeld => ?_)
              focus ((refine ⟨?_, ?_⟩ <;> (simp [go_sem, *]; done)))
              clear hK K
              try simp only [Act.put, List.setIfInBounds_toArray, List.set_cons_zero, List.set_cons_succ]
              have LL := Loc.newAt w5 [.int .i64 (-1), .int .i64 (s.cps.length : Int)] 3 (b := w5.heap.size) rfl
              refine wpAnyH_ready (rs := [7]) (by kernel_rfl) (by simp) ?_
              refine AllReadyH.cons (o := _) rfl (fun K hK => ?_) AllReadyH.nil
              go_simp
              refine (pick_any B R (q + 1 + 1) 2 _ (by ((repeat (first | with_reducible assumption | with_reducible refine Rdr.drew ?_ | with_reducible refine Rdr.drewN ?_ _ | with_reducible refine Rdr.alloc ?_ _ | with_reducible refine Rdr.other ?_ _ _ ?_ ?_ | omega)); done)) (by omega) (by omega) (by omega)).mono ?_
              rintro e w6 ⟨r6, rfl, a6, b6, hR6, hg6⟩
              have b6' := b6 (by omega)
              clear b6
              replace hR6 := hR6.to (p' := q + 1 + 1 + 1) (by omega)
              have hz6 := hg6.size
              (try simp at hz6)
              have hlt6 := hR6.lt
              have ne6 : w6.heap.size ≠ R := by omega
              replace LL := Loc.carry LL (fun h => by ((repeat (first | with_reducible exact h | with_reducible refine Loc.drew ?_ | with_reducible refine Loc.drewN ?_ _ | with_reducible refine Loc.alloc ?_ _)); done)) hg6 (by omega)
              replace LS := Loc.carry LS (fun h => by ((repeat (first | with_reducible exact h | with_reducible refine Loc.drew ?_ | with_reducible refine Loc.drewN ?_ _ | with_reducible refine Loc.alloc ?_ _)); done)) hg6 (by omega)
              replace L4 := Loc.carry L4 (fun h => by ((repeat (first | with_reducible exact h | with_reducible refine Loc.drew ?_ | with_reducible refine Loc.drewN ?_ _ | with_reducible refine Loc.alloc ?_ _)); done)) hg6 (by omega)
              obtain ⟨u0, u1, uf⟩ := LS.two
              go_wp2_with fail
              refine hK.out _ _ ?_ (fun hHeld => ?_)
              focus (exact ⟨u0, u1⟩)
              clear hK K
              try simp only [Act.put, List.setIfInBounds_toArray, List.set_cons_zero, List.set_cons_succ]
              have HOW6 := Lib.hid (SharedOwn.grown1 (SharedOwn.drew (SharedOwn.alloc HOW5.out (.cells #[.int .i64 (-1), .int .i64 (s.cps.length : Int)] 3))) hg6 hRB)
              have HGW6 := Lib.hid (grownBy_trans (grownBy_drew (grownBy_alloc HGW5.out (.cells #[.int .i64 (-1), .int .i64 (s.cps.length : Int)] 3))) hg6)
              clear hg6
              obtain ⟨x, -, hcx⟩ := Loc.at_int (l := [-1, (s.cps.length : Int)]) (Loc.lits _ LL rfl) r6 a6 (by simp; omega)
              obtain ⟨g', hge, -, -, hgl6, -, -, hfz6, hc6, hset6⟩ := HOW6.out.sector hwp
              cases hge
              have HS := Lib.hid (hset6 x)
              have hfz60 := hfz6 0
              have zL := LL.lt
              clear hset6 hfz6
              obtain ⟨t0, t1, tf⟩ := L4.two
              have zS6 := LS.lt
              have z46 := L4.lt
              (refine wpAnyH_take (i := 8) (oi := _) (v := ?_) rfl (by kernel_rfl) (by kernel_rfl) (by kernel_rfl) (fun _ _ _ h => h) (Or.inl ⟨by rfl, ?_⟩) (by assumption) ?_; rotate_left; (focus (intro wS hSw; (try dsimp only at hSw); go_simp; (try with_reducible rfl); done)); (try simp only [Act.put, List.setIfInBounds_toArray, List.set_cons_zero, List.set_cons_succ]))
              refine wpAnyH_ready (rs := [9]) (by kernel_rfl) (by simp) ?_
              refine AllReadyH.cons (o := _) rfl (fun K hK => ?_) AllReadyH.nil
              go_simp
              refine hK.out _ _ ?_ (fun hHeld => ?_)
              focus (exact ⟨u0, u1⟩)
              clear hK K
              try simp only [Act.put, List.setIfInBounds_toArray, List.set_cons_zero, List.set_cons_succ]
              (refine wpAnyH_take (i := 10) (oi := _) (v := ?_) rfl (by kernel_rfl) (by kernel_rfl) (by kernel_rfl) (fun _ _ _ h => h) (Or.inl ⟨by rfl, ?_⟩) (by assumption) ?_; rotate_left; (focus (intro wS hSw; (try dsimp only at hSw); go_simp; (try with_reducible rfl); done)); (try simp only [Act.put, List.setIfInBounds_toArray, List.set_cons_zero, List.set_cons_succ]))
              refine wpAnyH_ready (rs := [11]) (by kernel_rfl) (by simp) ?_
              refine AllReadyH.cons (o := _) rfl (fun K hK => ?_) AllReadyH.nil
              go_simp
              refine hK.out _ _ ?_ (fun hHeld => ?_)
              focus ((refine ⟨?_, ?_⟩ <;> (simp [go_sem, *]; done)))
              clear hK K
              try simp only [Act.put, List.setIfInBounds_toArray, List.set_cons_zero, List.set_cons_succ]
              refine wpAnyH_done (by kernel_rfl) ?_ _
              refine NoPanic.normal ?_
              go_wp2
              refine bodyPost_ret (v := .agg #[.slice (some ⟨g, 0, none⟩) s.whr.length c1, .slice A2 s.cps.length c2]) (by simp [results, Try.results54, go_sem, *]; done) rfl ?_
              exact ⟨_, _, ⟨s.whr.set 0 x, s.cps⟩, q + 1 + 1 + 1, rfl, SharedOwn.mono (B := Bs) (C := Cs) (by repeat (first | with_reducible exact HS.out | with_reducible refine SharedOwn.drew ?_ | with_reducible refine SharedOwn.drewN ?_ _ | with_reducible refine SharedOwn.alloc ?_ _ | (with_reducible refine SharedOwn.below ?_ (by assumption)) | ((with_reducible refine SharedOwn.other ?_ ?_ _); rotate_left; (focus (first | omega | (simp; omega) | (simp; done)))))) (by omega) (by first | omega | (simp; omega) | (simp; done)), by first | omega | (unfold sizeShared at hsz ⊢; simp; omega), (by ((repeat (first | with_reducible assumption | with_reducible refine Rdr.drew ?_ | with_reducible refine Rdr.drewN ?_ _ | with_reducible refine Rdr.alloc ?_ _ | with_reducible refine Rdr.other ?_ _ _ ?_ ?_ | omega)); done)), by omega, by omega, (by repeat (first | with_reducible exact HGW6.out | with_reducible refine grownBy_drew ?_ | with_reducible refine grownBy_drewN ?_ _ | with_reducible refine grownBy_alloc ?_ _ | (with_reducible refine grownBy_below ?_ (by assumption)) | ((with_reducible refine grownBy_set ?_ ?_ _ _); rotate_left; (focus (first | omega | (simp; omega) | (simp; done)))) | ((with_reducible refine grownBy_trans ?_ (by assumption)); done) | ((with_reducible refine grownBy_new (by assumption) ?_ ?_); (focus (first | omega | (simp; omega) | (simp; done))))))⟩
            · go_simp
              refine (pick_any B R (q + 1 + 1) 2 _ (by ((repeat (first | with_reducible assumption | with_reducible refine Rdr.drew ?_ | with_reducible refine Rdr.drewN ?_ _ | with_reducible refine Rdr.alloc ?_ _ | with_reducible refine Rdr.other ?_ _ _ ?_ ?_ | omega)); done)) (by omega) (by omega) (by omega)).mono ?_
              rintro e w6 ⟨r6, rfl, a6, b6, hR6, hg6⟩
              have b6' := b6 (by omega)
              clear b6
              replace hR6 := hR6.to (p' := q + 1 + 1 + 1) (by omega)
              have hz6 := hg6.size
              (try simp at hz6)
              have hlt6 := hR6.lt
              have ne6 : w6.heap.size ≠ R := by omega
              replace LS := Loc.carry LS (fun h => by ((repeat (first | with_reducible exact h | with_reducible refine Loc.drew ?_ | with_reducible refine Loc.drewN ?_ _ | with_reducible refine Loc.alloc ?_ _)); done)) hg6 (by omega)
              replace L4 := Loc.carry L4 (fun h => by ((repeat (first | with_reducible exact h | with_reducible refine Loc.drew ?_ | with_reducible refine Loc.drewN ?_ _ | with_reducible refine Loc.alloc ?_ _)); done)) hg6 (by omega)
              obtain ⟨u0, u1, uf⟩ := LS.two
              have zS6 := LS.lt
              go_wp2_with fail
              refine hK.out _ _ ?_ (fun hHeld => ?_)
              focus (exact ⟨u0, u1⟩)
              clear hK K
              try simp only [Act.put, List.setIfInBounds_toArray, List.set_cons_zero, List.set_cons_succ]
              refine wpAnyH_ready (rs := [5]) (by kernel_rfl) (by simp) ?_
              refine AllReadyH.cons (o := _) rfl (fun K hK => ?_) AllReadyH.nil
              go_simp
              refine hK.out _ _ ?_ (fun hHeld => ?_)
              focus ((refine ⟨?_, ?_⟩ <;> (simp [go_sem, *]; done)))
              clear hK K
              try simp only [Act.put, List.setIfInBounds_toArray, List.set_cons_zero, List.set_cons_succ]
              have LL := Loc.newAt w6 [.int .i64 (-1), .int .i64 (s.cps.length : Int)] 3 (b := w6.heap.size) rfl
              replace LS := Loc.alloc LS (.cells #[.int .i64 (-1), .int .i64 (s.cps.length : Int)] 3)
              replace L4 := Loc.alloc L4 (.cells #[.int .i64 (-1), .int .i64 (s.cps.length : Int)] 3)
              have HOW6 := Lib.hid (SharedOwn.alloc (SharedOwn.grown1 (SharedOwn.drew HOW5.out) hg6 hRB) (.cells #[.int .i64 (-1), .int .i64 (s.cps.length : Int)] 3))
              have HGW6 := Lib.hid (grownBy_alloc (grownBy_trans (grownBy_drew HGW5.out) hg6) (.cells #[.int .i64 (-1), .int .i64 (s.cps.length : Int)] 3))
              have u0' := (Loc.two LS).1
              have u1' := (Loc.two LS).2.1
              clear u0 u1 uf
              have u0 := u0'
              have u1 := u1'
              clear u0' u1'
              clear hg6
              obtain ⟨x, -, hcx⟩ := Loc.at_int (l := [-1, (s.cps.length : Int)]) (Loc.lits _ LL rfl) r6 a6 (by simp; omega)
              obtain ⟨g', hge, -, -, hgl6, -, -, hfz6, hc6, hset6⟩ := HOW6.out.sector hwp
              cases hge
              have HS := Lib.hid (hset6 x)
              have hfz60 := hfz6 0
              have zL := LL.lt
              clear hset6 hfz6
              obtain ⟨t0, t1, tf⟩ := L4.two
              have zS6 := LS.lt
              have z46 := L4.lt
              (refine wpAnyH_take (i := 8) (oi := _) (v := ?_) rfl (by kernel_rfl) (by kernel_rfl) (by kernel_rfl) (fun _ _ _ h => h) (Or.inl ⟨by rfl, ?_⟩) (by assumption) ?_; rotate_left; (focus (intro wS hSw; (try dsimp only at hSw); go_simp; (try with_reducible rfl); done)); (try simp only [Act.put, List.setIfInBounds_toArray, List.set_cons_zero, List.set_cons_succ]))
              refine wpAnyH_ready (rs := [9]) (by kernel_rfl) (by simp) ?_
              refine AllReadyH.cons (o := _) rfl (fun K hK => ?_) AllReadyH.nil
              go_simp
              refine hK.out _ _ ?_ (fun hHeld => ?_)
              focus (exact ⟨u0, u1⟩)
              clear hK K
              try simp only [Act.put, List.setIfInBounds_toArray, List.set_cons_zero, List.set_cons_succ]
              (refine wpAnyH_take (i := 10) (oi := _) (v := ?_) rfl (by kernel_rfl) (by kernel_rfl) (by kernel_rfl) (fun _ _ _ h => h) (Or.inl ⟨by rfl, ?_⟩) (by assumption) ?_; rotate_left; (focus (intro wS hSw; (try dsimp only at hSw); go_simp; (try with_reducible rfl); done)); (try simp only [Act.put, List.setIfInBounds_toArray, List.set_cons_zero, List.set_cons_succ]))
              refine wpAnyH_ready (rs := [11]) (by kernel_rfl) (by simp) ?_
              refine AllReadyH.cons (o := _) rfl (fun K hK => ?_) AllReadyH.nil
              go_simp
              refine hK.out _ _ ?_ (fun hHeld => ?_)
              focus ((refine ⟨?_, ?_⟩ <;> (simp [go_sem, *]; done)))
              clear hK K
              try simp only [Act.put, List.setIfInBounds_toArray, List.set_cons_zero, List.set_cons_succ]
              refine wpAnyH_done (by kernel_rfl) ?_ _
              refine NoPanic.normal ?_
              go_wp2
              refine bodyPost_ret (v := .agg #[.slice (some ⟨g, 0, none⟩) s.whr.length c1, .slice A2 s.cps.length c2]) (by simp [results, Try.results54, go_sem, *]; done) rfl ?_
              exact ⟨_, _, ⟨s.whr.set 0 x, s.cps⟩, q + 1 + 1 + 1, rfl, SharedOwn.mono (B := Bs) (C := Cs) (by repeat (first | with_reducible exact HS.out | with_reducible refine SharedOwn.drew ?_ | with_reducible refine SharedOwn.drewN ?_ _ | with_reducible refine SharedOwn.alloc ?_ _ | (with_reducible refine SharedOwn.below ?_ (by assumption)) | ((with_reducible refine SharedOwn.other ?_ ?_ _); rotate_left; (focus (first | omega | (simp; omega) | (simp; done)))))) (by omega) (by first | omega | (simp; omega) | (simp; done)), by first | omega | (unfold sizeShared at hsz ⊢; simp; omega), (by ((repeat (first | with_reducible assumption | with_reducible refine Rdr.drew ?_ | with_reducible refine Rdr.drewN ?_ _ | with_reducible refine Rdr.alloc ?_ _ | with_reducible refine Rdr.other ?_ _ _ ?_ ?_ | omega)); done)), by omega, by omega, (by repeat (first | with_reducible exact HGW6.out | with_reducible refine grownBy_drew ?_ | with_reducible refine grownBy_drewN ?_ _ | with_reducible refine grownBy_alloc ?_ _ | (with_reducible refine grownBy_below ?_ (by assumption)) | ((with_reducible refine grownBy_set ?_ ?_ _ _); rotate_left; (focus (first | omega | (simp; omega) | (simp; done)))) | ((with_reducible refine grownBy_trans ?_ (by assumption)); done) | ((with_reducible refine grownBy_new (by assumption) ?_ ?_); (focus (first | omega | (simp; omega) | (simp; done))))))⟩
          · obtain ⟨g, rfl, hgB, hgC, hgl, -, hcc, hfz, hc1, hc2, hsetA, -⟩ := HOW5.out.copy hc0
            have hS := hsetA 256
            have hfz0 := hfz (0 * 2)
            rw [Nat.zero_mul] at hc1 hfz0 hS
            have HS := Lib.hid hS
            have hgX : g ≠ w2.heap.size := by omega
            have hgW : g ≠ w.heap.size := by omega
            clear hsetA hfz hS
            go_wp2
            refine bodyPost_ret (v := .agg #[.slice A1 s.whr.length c1, .slice (some ⟨g, 0, none⟩) s.cps.length c2]) (by simp [results, Try.results54, go_sem, *]; done) rfl ?_
            exact ⟨_, _, ⟨s.whr, s.cps.set 0 ⟨256, (s.cps[0]'hc0).usr⟩⟩, q + 1 + 1, rfl, SharedOwn.mono (B := Bs) (C := Cs) (by repeat (first | with_reducible exact HS.out | with_reducible refine SharedOwn.drew ?_ | with_reducible refine SharedOwn.drewN ?_ _ | with_reducible refine SharedOwn.alloc ?_ _ | (with_reducible refine SharedOwn.below ?_ (by assumption)) | ((with_reducible refine SharedOwn.other ?_ ?_ _); rotate_left; (focus (first | omega | (simp; omega) | (simp; done)))))) (by omega) (by first | omega | (simp; omega) | (simp; done)), by first | omega | (unfold sizeShared at hsz ⊢; simp; omega), (by ((repeat (first | with_reducible assumption | with_reducible refine Rdr.drew ?_ | with_reducible refine Rdr.drewN ?_ _ | with_reducible refine Rdr.alloc ?_ _ | with_reducible refine Rdr.other ?_ _ _ ?_ ?_ | omega)); done)), by omega, by omega, (by repeat (first | with_reducible exact HGW5.out | with_reducible refine grownBy_drew ?_ | with_reducible refine grownBy_drewN ?_ _ | with_reducible refine grownBy_alloc ?_ _ | (with_reducible refine grownBy_below ?_ (by assumption)) | ((with_reducible refine grownBy_set ?_ ?_ _ _); rotate_left; (focus (first | omega | (simp; omega) | (simp; done)))) | ((with_reducible refine grownBy_trans ?_ (by assumption)); done) | ((with_reducible refine grownBy_new (by assumption) ?_ ?_); (focus (first | omega | (simp; omega) | (simp; done))))))⟩
      · have hc0' : ¬ (0 : Int) < (s.cps.length : Int) := by omega
        obtain ⟨v0, v1, vf⟩ := L4.two
        go_wp2
        refine bodyPost_ret (v := .agg #[.slice A1 s.whr.length c1, .slice A2 s.cps.length c2]) (by simp [results, Try.results54, go_sem, *]; done) rfl ?_
        exact ⟨_, _, s, q, rfl, SharedOwn.mono (B := Bs) (C := Cs) (by repeat (first | with_reducible exact HOW.out | with_reducible refine SharedOwn.drew ?_ | with_reducible refine SharedOwn.drewN ?_ _ | with_reducible refine SharedOwn.alloc ?_ _ | (with_reducible refine SharedOwn.below ?_ (by assumption)) | ((with_reducible refine SharedOwn.other ?_ ?_ _); rotate_left; (focus (first | omega | (simp; omega) | (simp; done)))))) (by omega) (by first | omega | (simp; omega) | (simp; done)), by first | omega | (unfold sizeShared at hsz ⊢; simp; omega), (by ((repeat (first | with_reducible assumption | with_reducible refine Rdr.drew ?_ | with_reducible refine Rdr.drewN ?_ _ | with_reducible refine Rdr.alloc ?_ _ | with_reducible refine Rdr.other ?_ _ _ ?_ ?_ | omega)); done)), by omega, by omega, (by repeat (first | with_reducible exact HGW.out | with_reducible refine grownBy_drew ?_ | with_reducible refine grownBy_drewN ?_ _ | with_reducible refine grownBy_alloc ?_ _ | (with_reducible refine grownBy_below ?_ (by assumption)) | ((with_reducible refine grownBy_set ?_ ?_ _ _); rotate_left; (focus (first | omega | (simp; omega) | (simp; done)))) | ((with_reducible refine grownBy_trans ?_ (by assumption)); done) | ((with_reducible refine grownBy_new (by assumption) ?_ ?_); (focus (first | omega | (simp; omega) | (simp; done))))))⟩
end Go.Proofs.Ytpekccmhfkeadaa
