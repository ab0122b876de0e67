/-
  A line of a cache becomes the first one. Conditions: lengths at most 2^40.
-/
import Derived.Test.YtlhbjfjphckifaaBase
import Derived.Test.YtlhbjfjphckifaaNum
import Derived.Test.YtlhbjfjphckifaaInts
import Derived.Test.YtlhbjfjphckifaaApp
import Derived.Test.YtlhbjfjphckifaaIntsW
import Derived.Test.YtlhbjfjphckifaaLib
import Derived.Test.YtlhbjfjphckifaaSpares
import Derived.Test.YtlhbjfjphckifaaOwn
import Derived.Test.YtlhbjfjphckifaaPart
import Derived.Test.YtlhbjfjphckifaaLine
import Derived.Test.YtlhbjfjphckifaaStack
import Derived.Test.YtlhbjfjphckifaaStackM
import Derived.Test.YtlhbjfjphckifaaStackC
import Derived.Test.YtlhbjfjphckifaaStackF
import Derived.IntWalk
namespace Go.Proofs.Ytlhbjfjphckifaa
open Go.RowKit
def lruTo (l : List Ln) (x : Ln) (k : Nat) : List Ln := x :: (l.take k).filter (fun y => !(y.at_ == x.at_))
theorem lruTo_zero (l : List Ln) (x : Ln) : lruTo l x 0 = [x] := by simp [lruTo]
theorem lruTo_all {l : List Ln} (x : Ln) {k : Nat} (h : l.length ≤ k) : lruTo l x k = lruL l x := by unfold lruTo lruL; rw [List.take_of_length_le h]
theorem lruTo_more {l : List Ln} {x : Ln} {k : Nat} (hk : k < l.length) (h : (l[k].at_ == x.at_) = false) : lruTo l x (k + 1) = lruTo l x k ++ [l[k]] := by
  unfold lruTo
  rw [List.take_succ_eq_append_getElem hk, List.filter_append]
  simp [h]
theorem lruTo_same {l : List Ln} {x : Ln} {k : Nat} (hk : k < l.length) (h : (l[k].at_ == x.at_) = true) : lruTo l x (k + 1) = lruTo l x k := by
  unfold lruTo
  rw [List.take_succ_eq_append_getElem hk, List.filter_append]
  simp [h]
theorem line_row {w : World} {b : Nat} {x : Ln} (hb : w.heap.size = b) : Row encLineS (w.alloc (.cells #[.int .i64 x.at_, .int .i64 x.val, .bool x.drt] tyLineS)) b tyLineS (some ⟨b, 0, none⟩) 1 [x] := by
  subst hb
  exact Row.made w tyLineS _ [x] 1 rfl (Nat.le_refl _) (by simp [maxLen]) (by simp [encLineS])
theorem sown_n {α : Type} {E : Enc α} {e : TypeId} {B C n c : Nat} {w : World} {A : Option Addr} {l : List α} (hn : l.length = n) (h : SOwn E e B w C (.slice A l.length c) l) : SOwn E e B w C (.slice A n c) l := by subst hn; exact h
theorem cutL_no {L : List Ln} {m : Int} (h : ¬ m < L.length) : cutL L m = L := by simp [cutL, h]
theorem cutD_no (d : List Int) {L : List Ln} {m : Int} (h : ¬ m < L.length) : cutD d L m = d := by simp [cutD, h]
theorem cutL_yes {L : List Ln} {M : Nat} (h : M < L.length) : cutL L (M : Int) = L.take M := by
  have : ((M : Int) < (L.length : Int)) := by omega
  simp [cutL, h]
theorem cutD_yes (d : List Int) {L : List Ln} {M : Nat} (h : M < L.length) : cutD d L (M : Int) = if L[M].drt then d.set L[M].at_.toNat L[M].val else d := by
  simp [cutD, h]
set_option maxHeartbeats 4000000 in
theorem implUse_c (y u : Value) (l : List Ln) (m : Int) (d : List Int) (x : Ln) (w : World) (hy : SRd encLineS w y l) (hu : SRd eInt w u d) (hv : CV l m d.length) (hx : 0 ≤ x.at_ ∧ x.at_ < d.length) :
    Calls Try.prog 102 #[.agg #[y, .int .i64 m], u, .agg #[.int .i64 x.at_, .int .i64 x.val, .bool x.drt]] w (MadeCD (cutL (lruL l x) m) m (cutD d (lruL l x) m) w) := by
  obtain ⟨A0, c0, rfl, ra, -⟩ := id hy
  obtain ⟨M, rfl⟩ := Int.eq_ofNat_of_zero_le (show 0 ≤ m by have := hv.m0; omega)
  have hM8 : M ≤ 8 := by have := hv.m1; omega
  have hM1 : 1 ≤ M := by have := hv.m0; omega
  have hll : l.length ≤ M := by have := hv.len; omega
  have hdl : d.length ≤ 64 := by have := hv.n1; omega
  obtain ⟨xa, xv, xd⟩ := x
  simp only at hx ⊢
  obtain ⟨x0, x1⟩ := hx
  have L0 := Loc.new w [.slice A0 l.length c0, .int .i64 M] 33
  have L5 := Loc.newAt (w.alloc (.cells #[.slice A0 l.length c0, .int .i64 M] 33)) [.int .i64 xa, .int .i64 xv, .bool xd] 95 (b := w.heap.size + 1) (by simp)
  have L6 := Loc.newAt ((w.alloc (.cells #[.slice A0 l.length c0, .int .i64 M] 33)).alloc (.cells #[.int .i64 xa, .int .i64 xv, .bool xd] 95)) [.slice none 0 0, .int .i64 0] 33 (b := w.heap.size + 1 + 1) (by simp)
  go_enter Try.func102, Try.ntmps102
  go_wp2_with fail
  refine (cloneInt_v u d _ (hu.below (by repeat (first | with_reducible exact Below.refl _ _ | with_reducible refine below_drewN ?_ _ | with_reducible refine Below.drew ?_ | with_reducible refine Below.alloc ?_ ?_ _ | with_reducible refine Below.setCell ?_ ?_ _ | omega | (focus (simp; omega)) | (focus (simp; done))))) (by omega)).mono ?_
  rintro e w1 ⟨u1, rfl, o1, hb1⟩
  obtain ⟨A1, c1, g1, rfl, row1, hg1, -⟩ := o1.row (w1.heap.size + 5)
  have M0 := Loc.carryB L0 (fun h => by ((repeat (first | with_reducible exact h | with_reducible refine Loc.drew ?_ | with_reducible refine Loc.drewN ?_ _ | with_reducible refine Loc.alloc ?_ _)); done)) hb1
  have M5 := Loc.carryB L5 (fun h => by ((repeat (first | with_reducible exact h | with_reducible refine Loc.drew ?_ | with_reducible refine Loc.drewN ?_ _ | with_reducible refine Loc.alloc ?_ _)); done)) hb1
  have M6 := Loc.carryB L6 (fun h => by ((repeat (first | with_reducible exact h | with_reducible refine Loc.drew ?_ | with_reducible refine Loc.drewN ?_ _ | with_reducible refine Loc.alloc ?_ _)); done)) hb1
  obtain ⟨k0, k1, kf⟩ := M0.two
  obtain ⟨l0, l1, l2, lf⟩ := M5.three
  have W1 : Hid (Below w.heap.size w w1) := Lib.hid (Below.next (W := w) (by repeat (first | with_reducible exact Below.refl _ _ | with_reducible refine below_drewN ?_ _ | with_reducible refine Below.drew ?_ | with_reducible refine Below.alloc ?_ ?_ _ | with_reducible refine Below.setCell ?_ ?_ _ | omega | (focus (simp; omega)) | (focus (simp; done)))) hb1)
  have hz1 := hb1.size
  (try simp at hz1)
  have hG1 : w.heap.size + 1 + 1 + 1 ≤ g1 := by simp at hg1; rcases hg1 with ⟨_, h1⟩ | ⟨_, _, _, h1, h1'⟩ <;> omega
  have hG2 : g1 ≠ w1.heap.size := by simp at hg1; rcases hg1 with ⟨_, h1⟩ | ⟨_, _, _, h1, h1'⟩ <;> omega
  have hR2 := line_row (w := w1) (b := w1.heap.size) (x := ⟨xa, xv, xd⟩) rfl
  have zM0 := M0.lt
  have zM5 := M5.lt
  have zM6 := M6.lt
  have WL := Lib.hid (Below.alloc W1.out (by omega) (.cells #[.int .i64 xa, .int .i64 xv, .bool xd] tyLineS))
  have RW1 := Lib.hid (Row.alloc row1 (.cells #[.int .i64 xa, .int .i64 xv, .bool xd] tyLineS))
  have HR2 := Lib.hid hR2
  have Q0 := Loc.alloc M0 (.cells #[.int .i64 xa, .int .i64 xv, .bool xd] tyLineS)
  have Q5 := Loc.alloc M5 (.cells #[.int .i64 xa, .int .i64 xv, .bool xd] tyLineS)
  have Q6 := Loc.alloc M6 (.cells #[.int .i64 xa, .int .i64 xv, .bool xd] tyLineS)
  clear hb1 o1 hg1 row1 hR2 L0 L5 L6
  go_wp2
  clear k0 k1 kf l0 l1 l2 lf M0 M5 M6
  go_loopw [9, 20] (fun sl i wr => ∃ k : Nat, k ≤ l.length ∧ i = .int .i64 k ∧ Loc wr w.heap.size [.slice A0 l.length c0, .int .i64 M] ∧ Loc wr (w.heap.size + 1) [.int .i64 xa, .int .i64 xv, .bool xd] ∧ Loc wr (w.heap.size + 1 + 1) [.slice none 0 0, .int .i64 0] ∧ Below w.heap.size w wr ∧ ∃ (L : List Ln) (Q : Option Addr) (c2 g2 : Nat), sl = .slice Q L.length c2 ∧ Hid (L = lruTo l ⟨xa, xv, xd⟩ k) ∧ (1 ≤ L.length ∧ L.length ≤ k + 1) ∧ Row eInt wr g1 3 A1 c1 d ∧ Row encLineS wr g2 tyLineS Q c2 L ∧ (g1 ≠ g2 ∧ w.heap.size + 1 + 1 + 1 ≤ g2)) (fun _ i _ => l.length - (intOf i).toNat)
  case atStart => exact ⟨0, Nat.zero_le _, rfl, Q0, Q5, Q6, WL.out, [⟨xa, xv, xd⟩], _, 1, w1.heap.size, rfl, Lib.hid (lruTo_zero _ _).symm, ⟨Nat.le_refl _, Nat.le_refl _⟩, RW1.out, HR2.out, hG2, by omega⟩
  case round =>
    obtain ⟨k, hk, rfl, P0, P5, P6, hbw, L, Q, c2, g2, rfl, HL, ⟨hL1, hL2⟩, r1, r2, hne, hG3⟩ := hrel
    have HBW := Lib.hid hbw
    have hzw := hbw.size
    obtain ⟨k0, k1, kf⟩ := P0.two
    obtain ⟨l0, l1, l2, lf⟩ := P5.three
    have zP0 := P0.lt
    have zP5 := P5.lt
    have zP6 := P6.lt
    obtain ⟨hQ, hg2l, hfz2, -⟩ := r2.rLineS (by omega)
    subst hQ
    have hlc2 := Lib.hid r2.le
    have R1 := Lib.hid r1
    have R2 := Lib.hid r2
    clear hbw r1
    by_cases hlt : k < l.length
    · have hd0 : 0 < d.length := by omega
      obtain ⟨b, off, rfl, hbl, hc, hc2, hc3⟩ := (ra.below HBW.out).rLineS hlt
      have hbw0 : b < w.heap.size := ra.lt (by omega) rfl
      have hmo := fun h => lruTo_more (x := ⟨xa, xv, xd⟩) hlt h
      have hsa := fun h => lruTo_same (x := ⟨xa, xv, xd⟩) hlt h
      obtain ⟨p, hp⟩ : ∃ p, p = l[k]'hlt := ⟨_, rfl⟩
      rw [← hp] at hc hc2 hc3 hmo hsa
      have HMO := Lib.hid hmo
      have HSA := Lib.hid hsa
      clear hp hmo hsa r2
      obtain ⟨pa, pv, pd⟩ := p
      simp only at hc hc2 hc3 HMO HSA
      have hne1 : g1 ≠ wr.heap.size := by have := R1.out.lt hd0; omega
      have hne3 : g1 ≠ wr.heap.size + 1 := by have := R1.out.lt hd0; omega
      have hne4 : g2 ≠ wr.heap.size := by omega
      cases hee : (pa != xa)
      · have HE : Hid ((pa == xa) = true) := Lib.hid (by simpa using hee)
        go_wp2
        go_roundw
        case rel =>
          exact ⟨k + 1, by omega, by go_num, Loc.alloc P0 _, Loc.alloc P5 _, Loc.alloc P6 _, (by repeat (first | with_reducible exact HBW.out | with_reducible exact Below.refl _ _ | with_reducible refine below_drewN ?_ _ | with_reducible refine Below.drew ?_ | with_reducible refine Below.alloc ?_ ?_ _ | with_reducible refine Below.setCell ?_ ?_ _ | (with_reducible refine Below.next ?_ (by assumption)) | ((with_reducible refine Below.far' (by assumption) ?_ ?_ ?_); (focus (first | omega | (simp; omega) | (simp; done))); (focus (first | omega | (simp; omega) | (simp; done)))) | omega | (focus (simp; omega)) | (focus (simp; done)))), L, _, c2, g2, rfl, Lib.hid (by rw [HSA.out HE.out, ← HL.out]), ⟨hL1, by omega⟩, Row.alloc R1.out _, Row.alloc R2.out _, hne, hG3⟩
        case measure => simp [intOf]; omega
      · have HE : Hid ((pa == xa) = false) := Lib.hid (by simpa using hee)
        have h63 : L.length + [(⟨pa, pv, pd⟩ : Ln)].length ≤ maxLen := by simp [maxLen]; omega
        have hby : (L.length + [(⟨pa, pv, pd⟩ : Ln)].length) * 24 ≤ 140737488355328 := by simp; omega
        go_wp2_with (at_builtin; go_must (refine wpList_append_row rfl _ _ rfl elLineS rfl (Row.alloc (Row.alloc R2.out _) _) _ _ [(⟨pa, pv, pd⟩ : Ln)] rfl (Rd.lit (by simp) rfl) h63 hby ?_; intro Q3 c3 g3 w3 L3 hL3 hle3 hle4 row3 hg3 hgg3; have S0 := Loc.carry P0 (fun h => by ((repeat (first | with_reducible exact h | with_reducible refine Loc.drew ?_ | with_reducible refine Loc.drewN ?_ _ | with_reducible refine Loc.alloc ?_ _)); done)) hg3 (by first | omega | (simp; omega) | (simp; done)); have S5 := Loc.carry P5 (fun h => by ((repeat (first | with_reducible exact h | with_reducible refine Loc.drew ?_ | with_reducible refine Loc.drewN ?_ _ | with_reducible refine Loc.alloc ?_ _)); done)) hg3 (by first | omega | (simp; omega) | (simp; done)); have S6 := Loc.carry P6 (fun h => by ((repeat (first | with_reducible exact h | with_reducible refine Loc.drew ?_ | with_reducible refine Loc.drewN ?_ _ | with_reducible refine Loc.alloc ?_ _)); done)) hg3 (by first | omega | (simp; omega) | (simp; done))))
        have hz3 := hg3.size
        simp at hz3 hgg3
        have e1 : [(⟨pa, pv, pd⟩ : Ln)].length = 1 := rfl
        have hg1w := R1.out.lt hd0
        have Z1 : Hid (Row eInt w3 g1 3 A1 c1 d) := Lib.hid (Row.grown (Row.alloc (Row.alloc R1.out _) _) hg3 hne)
        have Z3 : Hid (Below w.heap.size w w3) := Lib.hid (Below.grown1 (by repeat (first | with_reducible exact HBW.out | with_reducible exact Below.refl _ _ | with_reducible refine below_drewN ?_ _ | with_reducible refine Below.drew ?_ | with_reducible refine Below.alloc ?_ ?_ _ | with_reducible refine Below.setCell ?_ ?_ _ | (with_reducible refine Below.next ?_ (by assumption)) | ((with_reducible refine Below.far' (by assumption) ?_ ?_ ?_); (focus (first | omega | (simp; omega) | (simp; done))); (focus (first | omega | (simp; omega) | (simp; done)))) | omega | (focus (simp; omega)) | (focus (simp; done)))) hg3 (by simp; omega) (by omega))
        go_roundw
        case rel =>
          exact ⟨k + 1, by omega, by go_num, S0, S5, S6, Z3.out, L3, Q3, c3, g3, rfl, Lib.hid (by rw [hL3.out, HMO.out HE.out, ← HL.out]), ⟨by omega, by omega⟩, Z1.out, row3, by omega, by omega⟩
        case measure => simp [intOf]; omega
    · have HLE : Hid (L = lruL l ⟨xa, xv, xd⟩) := Lib.hid (by rw [HL.out, lruTo_all _ (by omega)])
      have R3 := Lib.hid r2
      obtain ⟨s0, s1, sf⟩ := P6.two
      clear HL r2
      by_cases hcut : (M : Int) < L.length
      · have hML : M < L.length := by omega
        obtain ⟨-, -, -, hcL⟩ := R3.out.rLineS (by omega)
        obtain ⟨hc, hc2, hc3⟩ := hcL M hML
        have hmem : L[M]'hML ∈ lruL l ⟨xa, xv, xd⟩ := by rw [← HLE.out]; exact List.getElem_mem hML
        have hzr : 0 ≤ (L[M]'hML).at_ ∧ (L[M]'hML).at_ < d.length := by
          unfold lruL at hmem
          rcases List.mem_cons.1 hmem with h1 | h1
          · rw [h1]; exact ⟨x0, x1⟩
          · have := hv.rng _ (List.mem_filter.1 h1).1; exact ⟨this.1, this.2.1⟩
        have hLt := Lib.hid (show cutL (lruL l ⟨xa, xv, xd⟩) M = L.take M by rw [← HLE.out, cutL_yes hML])
        have hDt := Lib.hid (show cutD d (lruL l ⟨xa, xv, xd⟩) M = if (L[M]'hML).drt then d.set (L[M]'hML).at_.toNat (L[M]'hML).val else d by rw [← HLE.out, cutD_yes d hML])
        obtain ⟨z, hz⟩ : ∃ z, z = L[M]'hML := ⟨_, rfl⟩
        rw [← hz] at hc hc2 hc3 hzr hDt
        clear hmem hz hcL
        obtain ⟨za, zv, zd⟩ := z
        simp only at hc hc2 hc3 hzr hDt
        obtain ⟨z0, z1⟩ := hzr
        obtain ⟨j, rfl⟩ := Int.eq_ofNat_of_zero_le z0
        have hjd : j < d.length := by omega
        obtain ⟨hA1, hg1l, hfz1, hcD⟩ := R1.out.int (by omega)
        subst hA1
        have hcj := hcD j hjd
        have hmi0 : (0 : Int) ≤ (M : Int) := by omega
        have hmi1 : (M : Int) ≤ (c2 : Int) := by have := hlc2.out; omega
        have hne1 : g1 ≠ wr.heap.size := by omega
        have hne2 : g2 ≠ wr.heap.size := by omega
        have htk : (L.take M).length = M := by rw [List.length_take]; omega
        clear hcD
        cases zd
        · have DT : Hid (cutD d (lruL l ⟨xa, xv, xd⟩) M = d) := hDt
          have R2T := Lib.hid (Row.take R3.out M (by omega))
          go_wp2
          refine bodyPost_ret (v := .tuple #[.agg #[.slice (some ⟨g2, 0, none⟩) M c2, .int .i64 M], .slice (some ⟨g1, 0, none⟩) d.length c1]) (by simp [results, Try.results102, go_sem, s0, s1, zP6]; done) rfl ⟨_, _, rfl, ?_, ?_, ?_, (by repeat (first | with_reducible exact HBW.out | with_reducible exact Below.refl _ _ | with_reducible refine below_drewN ?_ _ | with_reducible refine Below.drew ?_ | with_reducible refine Below.alloc ?_ ?_ _ | with_reducible refine Below.setCell ?_ ?_ _ | (with_reducible refine Below.next ?_ (by assumption)) | ((with_reducible refine Below.far' (by assumption) ?_ ?_ ?_); (focus (first | omega | (simp; omega) | (simp; done))); (focus (first | omega | (simp; omega) | (simp; done)))) | omega | (focus (simp; omega)) | (focus (simp; done))))⟩
          · rw [hLt.out]
            exact SOwn.mono (sown_n htk (SOwn.of_fresh (D := w.heap.size + 1 + 1 + 1) (by repeat (first | with_reducible exact R2T.out | with_reducible refine Row.drew ?_ | with_reducible refine Row.drewN ?_ _ | with_reducible refine Row.alloc ?_ _ | (with_reducible refine Row.below ?_ (by assumption)) | ((with_reducible refine Row.other ?_ ?_ _); rotate_left; (focus (first | omega | (simp; omega) | (simp; done)))) | ((with_reducible refine Row.far' (by assumption) ?_ ?_); (focus (first | omega | (simp; omega) | (simp; done)))))) hG3)) (by omega) (Nat.le_refl _)
          · rw [DT.out]
            exact SOwn.mono (SOwn.of_fresh (D := w.heap.size + 1 + 1 + 1) (by repeat (first | with_reducible exact R1.out | with_reducible refine Row.drew ?_ | with_reducible refine Row.drewN ?_ _ | with_reducible refine Row.alloc ?_ _ | (with_reducible refine Row.below ?_ (by assumption)) | ((with_reducible refine Row.other ?_ ?_ _); rotate_left; (focus (first | omega | (simp; omega) | (simp; done)))) | ((with_reducible refine Row.far' (by assumption) ?_ ?_); (focus (first | omega | (simp; omega) | (simp; done)))))) hG1) (by omega) (Nat.le_refl _)
          · intro a n c a' n' c' h1 h2
            cases h1
            cases h2
            exact fun h => hne h.symm
        · have DT : Hid (cutD d (lruL l ⟨xa, xv, xd⟩) M = d.set j zv) := Lib.hid (by rw [hDt.out]; simp)
          have R2T := Lib.hid (Row.take R3.out M (by omega))
          have HS1 : Hid (Row eInt (wr.setCell ⟨g1, j, none⟩ (.int .i64 zv)) g1 3 (some ⟨g1, 0, none⟩) c1 (d.set j zv)) := Lib.hid (R1.out.setInt hjd zv)
          have hdsl : (d.set j zv).length = d.length := List.length_set
          go_wp2
          refine bodyPost_ret (v := .tuple #[.agg #[.slice (some ⟨g2, 0, none⟩) M c2, .int .i64 M], .slice (some ⟨g1, 0, none⟩) d.length c1]) (by simp [results, Try.results102, go_sem, s0, s1, zP6]; done) rfl ⟨_, _, rfl, ?_, ?_, ?_, (by repeat (first | with_reducible exact HBW.out | with_reducible exact Below.refl _ _ | with_reducible refine below_drewN ?_ _ | with_reducible refine Below.drew ?_ | with_reducible refine Below.alloc ?_ ?_ _ | with_reducible refine Below.setCell ?_ ?_ _ | (with_reducible refine Below.next ?_ (by assumption)) | ((with_reducible refine Below.far' (by assumption) ?_ ?_ ?_); (focus (first | omega | (simp; omega) | (simp; done))); (focus (first | omega | (simp; omega) | (simp; done)))) | omega | (focus (simp; omega)) | (focus (simp; done))))⟩
          · rw [hLt.out]
            exact SOwn.mono (sown_n htk (SOwn.of_fresh (D := w.heap.size + 1 + 1 + 1) (by repeat (first | with_reducible exact R2T.out | with_reducible refine Row.drew ?_ | with_reducible refine Row.drewN ?_ _ | with_reducible refine Row.alloc ?_ _ | (with_reducible refine Row.below ?_ (by assumption)) | ((with_reducible refine Row.other ?_ ?_ _); rotate_left; (focus (first | omega | (simp; omega) | (simp; done)))) | ((with_reducible refine Row.far' (by assumption) ?_ ?_); (focus (first | omega | (simp; omega) | (simp; done)))))) hG3)) (by omega) (Nat.le_refl _)
          · rw [DT.out]
            exact SOwn.mono (sown_n hdsl (SOwn.of_fresh (D := w.heap.size + 1 + 1 + 1) (by repeat (first | with_reducible exact HS1.out | with_reducible refine Row.drew ?_ | with_reducible refine Row.drewN ?_ _ | with_reducible refine Row.alloc ?_ _ | (with_reducible refine Row.below ?_ (by assumption)) | ((with_reducible refine Row.other ?_ ?_ _); rotate_left; (focus (first | omega | (simp; omega) | (simp; done)))) | ((with_reducible refine Row.far' (by assumption) ?_ ?_); (focus (first | omega | (simp; omega) | (simp; done)))))) hG1)) (by omega) (Nat.le_refl _)
          · intro a n c a' n' c' h1 h2
            cases h1
            cases h2
            exact fun h => hne h.symm
      · have hLt := Lib.hid (show cutL (lruL l ⟨xa, xv, xd⟩) M = L by rw [← HLE.out, cutL_no hcut])
        have hDt := Lib.hid (show cutD d (lruL l ⟨xa, xv, xd⟩) M = d by rw [← HLE.out, cutD_no d hcut])
        go_wp2
        refine bodyPost_ret (v := .tuple #[.agg #[.slice (some ⟨g2, 0, none⟩) L.length c2, .int .i64 M], .slice A1 d.length c1]) (by simp [results, Try.results102, go_sem, s0, s1]; done) rfl ⟨_, _, rfl, ?_, ?_, ?_, (by repeat (first | with_reducible exact HBW.out | with_reducible exact Below.refl _ _ | with_reducible refine below_drewN ?_ _ | with_reducible refine Below.drew ?_ | with_reducible refine Below.alloc ?_ ?_ _ | with_reducible refine Below.setCell ?_ ?_ _ | (with_reducible refine Below.next ?_ (by assumption)) | ((with_reducible refine Below.far' (by assumption) ?_ ?_ ?_); (focus (first | omega | (simp; omega) | (simp; done))); (focus (first | omega | (simp; omega) | (simp; done)))) | omega | (focus (simp; omega)) | (focus (simp; done))))⟩
        · rw [hLt.out]
          exact SOwn.mono (SOwn.of_fresh (D := w.heap.size + 1 + 1 + 1) (by repeat (first | with_reducible exact R3.out | with_reducible refine Row.drew ?_ | with_reducible refine Row.drewN ?_ _ | with_reducible refine Row.alloc ?_ _ | (with_reducible refine Row.below ?_ (by assumption)) | ((with_reducible refine Row.other ?_ ?_ _); rotate_left; (focus (first | omega | (simp; omega) | (simp; done)))) | ((with_reducible refine Row.far' (by assumption) ?_ ?_); (focus (first | omega | (simp; omega) | (simp; done)))))) hG3) (by omega) (Nat.le_refl _)
        · rw [hDt.out]
          exact SOwn.mono (SOwn.of_fresh (D := w.heap.size + 1 + 1 + 1) (by repeat (first | with_reducible exact R1.out | with_reducible refine Row.drew ?_ | with_reducible refine Row.drewN ?_ _ | with_reducible refine Row.alloc ?_ _ | (with_reducible refine Row.below ?_ (by assumption)) | ((with_reducible refine Row.other ?_ ?_ _); rotate_left; (focus (first | omega | (simp; omega) | (simp; done)))) | ((with_reducible refine Row.far' (by assumption) ?_ ?_); (focus (first | omega | (simp; omega) | (simp; done)))))) hG1) (by omega) (Nat.le_refl _)
        · intro a n c a' n' c' h1 h2
          cases h1
          cases h2
          rw [R1.out.addr]
          exact fun h => hne h.symm
end Go.Proofs.Ytlhbjfjphckifaa
