/-
  Flushing a cache. Conditions: lengths at most 2^40.
-/
import Derived.Test.YtlhbjfjphckifaaBase
import Derived.Test.YtlhbjfjphckifaaNum
import Derived.Test.YtlhbjfjphckifaaInts
import Derived.Test.YtlhbjfjphckifaaApp
import Derived.Test.YtlhbjfjphckifaaIntsW
import Derived.Test.YtlhbjfjphckifaaLib
import Derived.Test.YtlhbjfjphckifaaSpares
import Derived.Test.YtlhbjfjphckifaaOwn
import Derived.Test.YtlhbjfjphckifaaPart
import Derived.Test.YtlhbjfjphckifaaLine
import Derived.Test.YtlhbjfjphckifaaStack
import Derived.Test.YtlhbjfjphckifaaStackM
import Derived.Test.YtlhbjfjphckifaaStackC
namespace Go.Proofs.Ytlhbjfjphckifaa
open Go.RowKit
/-- A cache and a disk come back. -/
def MadeCD (l : List Ln) (m : Int) (d : List Int) (w : World) (en : Ending) (w' : World) : Prop := ∃ y u, en = .returned (.tuple #[.agg #[y, .int .i64 m], u]) ∧ SOwn encLineS tyLineS w.heap.size w' w'.heap.size y l ∧ SOwn eInt 3 w.heap.size w' w'.heap.size u d ∧ Apart y u ∧ Below w.heap.size w w'
theorem Row.lineCell {w : World} {A : Option Addr} {g c : Nat} {e : TypeId} {l : List Ln} (h : Row encLineS w g e A c l) {k : Nat} (hk : k < l.length) {p : Ln} (hp : l[k] = p) : w.cell? ⟨g, k * 3, none⟩ = some (.int .i64 p.at_) ∧ w.cell? ⟨g, k * 3 + 1, none⟩ = some (.int .i64 p.val) ∧ w.cell? ⟨g, k * 3 + 2, none⟩ = some (.bool p.drt) := by
  subst hp
  obtain ⟨_, _, _, hc⟩ := h.rLineS (by omega)
  exact hc k hk
def cleanTo (l : List Ln) (k : Nat) : List Ln := cleanL (l.take k) ++ l.drop k
theorem cleanTo_len (l : List Ln) (k : Nat) : (cleanTo l k).length = l.length := by simp [cleanTo, cleanL]; omega
theorem cleanL_len (l : List Ln) : (cleanL l).length = l.length := by simp [cleanL]
theorem cleanTo_zero (l : List Ln) : cleanTo l 0 = l := by simp [cleanTo, cleanL]
theorem cleanTo_all {l : List Ln} {k : Nat} (h : l.length ≤ k) : cleanTo l k = cleanL l := by simp [cleanTo, List.take_of_length_le h, List.drop_eq_nil_of_le h]
theorem cleanTo_at (l : List Ln) (k i : Nat) : (cleanTo l k)[i]? = if i < k then (l[i]?).map (fun y => ⟨y.at_, y.val, false⟩) else l[i]? := by
  unfold cleanTo cleanL
  rw [List.getElem?_append]
  simp only [List.length_map, List.length_take, List.getElem?_map, List.getElem?_take, List.getElem?_drop]
  by_cases hik : i < k
  · by_cases hil : i < l.length
    · rw [if_pos (by omega), if_pos hik, if_pos hik]
    · rw [if_neg (by omega), if_pos hik, List.getElem?_eq_none (by omega), List.getElem?_eq_none (by omega)]; rfl
  · rw [if_neg (by omega), if_neg hik]
    by_cases hil : i < l.length
    · congr 1; omega
    · rw [List.getElem?_eq_none (by omega), List.getElem?_eq_none (by omega)]
theorem cleanTo_get {l : List Ln} {k : Nat} (hk : k < l.length) (h : k < (cleanTo l k).length) : (cleanTo l k)[k] = l[k] := by
  have := cleanTo_at l k k
  rw [if_neg (by omega), List.getElem?_eq_getElem h, List.getElem?_eq_getElem hk] at this
  simpa using this
theorem cleanTo_succ {l : List Ln} {k : Nat} (hk : k < l.length) : cleanTo l (k + 1) = (cleanTo l k).set k ⟨l[k].at_, l[k].val, false⟩ := by
  apply List.ext_getElem?
  intro i
  rw [List.getElem?_set, cleanTo_at, cleanTo_at, cleanTo_len]
  by_cases hik : k = i
  · subst hik
    rw [if_pos (by omega), if_pos rfl, if_pos hk, List.getElem?_eq_getElem hk]; rfl
  · rw [if_neg hik]
    by_cases h : i < k
    · rw [if_pos (by omega), if_pos h]
    · rw [if_neg (by omega), if_neg h]
theorem wb_yes (d : List Int) {y : Ln} (h : y.drt = true) : wb d y = d.set y.at_.toNat y.val := by simp [wb, h]
theorem wb_no (d : List Int) {y : Ln} (h : y.drt = false) : wb d y = d := by simp [wb, h]
theorem cloneInt_v (v : Value) (l : List Int) (w : World) (h : SRd eInt w v l) (hl : l.length ≤ 1099511627776) : Calls Try.prog 82 #[v] w (MadeS eInt 3 l w) := by
  obtain ⟨A, c, rfl, hr, _, _, hn⟩ := h
  exact (cloneInts_any A c l w hr hl hn).mono MadeS.of_fresh
set_option maxHeartbeats 4000000 in
theorem implFlush_c (y u : Value) (l : List Ln) (m : Int) (d : List Int) (w : World) (hy : SRd encLineS w y l) (hu : SRd eInt w u d) (hv : CV l m d.length) :
    Calls Try.prog 57 #[.agg #[y, .int .i64 m], u] w (MadeCD (cleanL l) m (flushD d l) w) := by
  obtain ⟨A0, c0, rfl, -⟩ := id hy
  have L0 := Loc.new w [.slice A0 l.length c0, .int .i64 m] 33
  have L1 := Loc.newAt (w.alloc (.cells #[.slice A0 l.length c0, .int .i64 m] 33)) [.slice none 0 0, .int .i64 0] 33 (b := w.heap.size + 1) (by simp)
  have hll : l.length ≤ 8 := by have := hv.len; have := hv.m1; omega
  have hdl : d.length ≤ 64 := by have := hv.n1; omega
  have HU := Lib.hid hu
  go_enter Try.func57, Try.ntmps57
  go_wp2_with fail
  refine (cloneInt_v u d _ (hu.below (by repeat (first | with_reducible exact Below.refl _ _ | with_reducible refine below_drewN ?_ _ | with_reducible refine Below.drew ?_ | with_reducible refine Below.alloc ?_ ?_ _ | with_reducible refine Below.setCell ?_ ?_ _ | omega | (focus (simp; omega)) | (focus (simp; done))))) (by omega)).mono ?_
  rintro e w1 ⟨u1, rfl, o1, hb1⟩
  have M0 := Loc.carryB L0 (fun h => by ((repeat (first | with_reducible exact h | with_reducible refine Loc.drew ?_ | with_reducible refine Loc.drewN ?_ _ | with_reducible refine Loc.alloc ?_ _)); done)) hb1
  have M1 := Loc.carryB L1 (fun h => by ((repeat (first | with_reducible exact h | with_reducible refine Loc.drew ?_ | with_reducible refine Loc.drewN ?_ _ | with_reducible refine Loc.alloc ?_ _)); done)) hb1
  obtain ⟨k0, k1, kf⟩ := M0.two
  have W1 : Hid (Below w.heap.size w w1) := Lib.hid (Below.next (W := w) (by repeat (first | with_reducible exact Below.refl _ _ | with_reducible refine below_drewN ?_ _ | with_reducible refine Below.drew ?_ | with_reducible refine Below.alloc ?_ ?_ _ | with_reducible refine Below.setCell ?_ ?_ _ | omega | (focus (simp; omega)) | (focus (simp; done)))) hb1)
  have hz1 := hb1.size
  (try simp at hz1)
  have zM0 := M0.lt
  have zM1 := M1.lt
  clear hb1
  go_wp2_with fail
  refine (cloneLineS_w (.slice A0 l.length c0) l _ (hy.below W1.out) (by omega)).mono ?_
  rintro e w2 ⟨u2, rfl, o2, hb2⟩
  obtain ⟨A1, c1, g1, rfl, row1, hg1, -⟩ := (o1.below hb2).row (w2.heap.size + 5)
  obtain ⟨A2, c2, g2, rfl, row2, hg2, -⟩ := o2.row (w2.heap.size + 6)
  have N0 := Loc.carryB M0 (fun h => by ((repeat (first | with_reducible exact h | with_reducible refine Loc.drew ?_ | with_reducible refine Loc.drewN ?_ _ | with_reducible refine Loc.alloc ?_ _)); done)) hb2
  have N1 := Loc.carryB M1 (fun h => by ((repeat (first | with_reducible exact h | with_reducible refine Loc.drew ?_ | with_reducible refine Loc.drewN ?_ _ | with_reducible refine Loc.alloc ?_ _)); done)) hb2
  have W2 : Hid (Below w.heap.size w w2) := Lib.hid (Below.next (W := w) W1.out hb2)
  have hz2 := hb2.size
  have hne : g1 ≠ g2 := by simp at hg1; rcases hg1 with ⟨_, h1⟩ | ⟨_, _, _, h1, h1'⟩ <;> rcases hg2 with ⟨_, h2⟩ | ⟨_, _, _, h2, h2'⟩ <;> omega
  have hB1 : w.heap.size + 1 + 1 ≤ g1 := by simp at hg1; rcases hg1 with ⟨_, h1⟩ | ⟨_, _, _, h1, h1'⟩ <;> omega
  have hB2 : w.heap.size + 1 + 1 ≤ g2 := by rcases hg2 with ⟨_, h2⟩ | ⟨_, _, _, h2, h2'⟩ <;> omega
  clear k0 k1 kf hb2 o1 o2 hg1 hg2 M0 M1 L0 L1
  go_wp2
  go_loopw [17] (fun i wr => ∃ k : Nat, k ≤ l.length ∧ i = .int .i64 k ∧ Loc wr w.heap.size [.slice A0 l.length c0, .int .i64 m] ∧ Loc wr (w.heap.size + 1) [.slice none 0 0, .int .i64 0] ∧ Below w.heap.size w wr ∧ ∃ (D : List Int) (L : List Ln), Hid (D = flushD d (l.take k)) ∧ (D.length ≤ d.length ∧ d.length ≤ D.length) ∧ Hid (L = cleanTo l k) ∧ (L.length ≤ l.length ∧ l.length ≤ L.length) ∧ Row eInt wr g1 3 A1 c1 D ∧ Row encLineS wr g2 tyLineS A2 c2 L) (fun i _ => l.length - (intOf i).toNat)
  case atStart => exact ⟨0, Nat.zero_le _, rfl, N0, N1, W2.out, d, l, Lib.hid (by simp [flushD]), ⟨Nat.le_refl _, Nat.le_refl _⟩, Lib.hid (cleanTo_zero l).symm, ⟨Nat.le_refl _, Nat.le_refl _⟩, row1, row2⟩
  case round =>
    obtain ⟨k, hk, rfl, P0, P1, hbw, D, L, HD, ⟨hD1, hD2⟩, HL, ⟨hL1, hL2⟩, r1, r2⟩ := hrel
    have HBW := Lib.hid hbw
    have hzw := hbw.size
    obtain ⟨k0, k1, kf⟩ := P0.two
    obtain ⟨l0, l1, lf⟩ := P1.two
    have zP1 := P1.lt
    clear hbw
    by_cases hlt : k < l.length
    · have hkL : k < L.length := by omega
      have hLk : L[k]'hkL = l[k]'hlt := by
        have h2 : k < (cleanTo l k).length := by rw [cleanTo_len]; omega
        have h3 := cleanTo_get hlt h2
        simp only [HL.out, h3]
      obtain ⟨p, hp⟩ : ∃ p, p = l[k]'hlt := ⟨_, rfl⟩
      have hpr := hv.rng _ (List.getElem_mem hlt)
      rw [← hp] at hLk hpr
      have HP := Lib.hid hp
      obtain ⟨hc, hc2, hc3⟩ := Row.lineCell r2 hkL hLk
      obtain ⟨rfl, hg2l, hfz2, -⟩ := r2.rLineS (by omega)
      clear hp
      obtain ⟨pa, pv, pd⟩ := p
      simp only at hc hc2 hc3 hpr
      obtain ⟨p0, p1, p2, p3⟩ := hpr
      obtain ⟨j, rfl⟩ := Int.eq_ofNat_of_zero_le p0
      have hjD : j < D.length := by omega
      obtain ⟨rfl, hg1l, hfz1, hcD⟩ := r1.int (by omega)
      have hcj := hcD j hjD
      clear hcD
      have hne2 : g2 ≠ wr.heap.size := by omega
      have hne1 : g1 ≠ wr.heap.size := by omega
      have HDS : pd = true → Hid (flushD d (l.take (k + 1)) = D.set j pv) := fun h => Lib.hid (by rw [flushD_succ d hlt, ← HD.out, ← HP.out]; subst h; rfl)
      have HDN : pd = false → Hid (flushD d (l.take (k + 1)) = D) := fun h => Lib.hid (by rw [flushD_succ d hlt, ← HD.out, ← HP.out]; subst h; rfl)
      have HLS : Hid (cleanTo l (k + 1) = L.set k ⟨j, pv, false⟩) := Lib.hid (by rw [cleanTo_succ hlt, ← HL.out, ← HP.out])
      have R1 := Lib.hid r1
      have R2 := Lib.hid r2
      have HLK := Lib.hid hLk
      clear r1 r2 hLk
      cases pd
      · have HDN' := HDN rfl
        clear HDS HDN
        have HS2 : Hid (Row encLineS (wr.setCell ⟨g2, k * 3 + 2, none⟩ (.bool false)) g2 tyLineS (some ⟨g2, 0, none⟩) c2 (L.set k ⟨j, pv, false⟩)) := Lib.hid (by
          have := R2.out.setCLineS hkL false
          rwa [HLK.out] at this)
        go_wp2
        go_roundw
        case rel =>
          refine ⟨k + 1, by omega, by go_num, (by repeat (first | with_reducible exact P0 | with_reducible refine Loc.drew ?_ | with_reducible refine Loc.drewN ?_ _ | with_reducible refine Loc.alloc ?_ _ | (with_reducible refine Loc.below ?_ (by assumption)) | ((with_reducible refine Loc.other' ?_ ?_ _); (focus (first | omega | (simp; omega) | (simp; done)))) | ((with_reducible refine Loc.far' (by assumption) ?_ ?_); (focus (first | omega | (simp; omega) | (simp; done)))))), (by repeat (first | with_reducible exact P1 | with_reducible refine Loc.drew ?_ | with_reducible refine Loc.drewN ?_ _ | with_reducible refine Loc.alloc ?_ _ | (with_reducible refine Loc.below ?_ (by assumption)) | ((with_reducible refine Loc.other' ?_ ?_ _); (focus (first | omega | (simp; omega) | (simp; done)))) | ((with_reducible refine Loc.far' (by assumption) ?_ ?_); (focus (first | omega | (simp; omega) | (simp; done)))))), (by repeat (first | with_reducible exact HBW.out | with_reducible exact Below.refl _ _ | with_reducible refine below_drewN ?_ _ | with_reducible refine Below.drew ?_ | with_reducible refine Below.alloc ?_ ?_ _ | with_reducible refine Below.setCell ?_ ?_ _ | (with_reducible refine Below.next ?_ (by assumption)) | ((with_reducible refine Below.far' (by assumption) ?_ ?_ ?_); (focus (first | omega | (simp; omega) | (simp; done))); (focus (first | omega | (simp; omega) | (simp; done)))) | omega | (focus (simp; omega)) | (focus (simp; done)))), D, L.set k ⟨j, pv, false⟩, Lib.hid HDN'.out.symm, ⟨hD1, hD2⟩, Lib.hid HLS.out.symm, ⟨by simpa using hL1, by simpa using hL2⟩, (by repeat (first | with_reducible exact R1.out | with_reducible refine Row.drew ?_ | with_reducible refine Row.drewN ?_ _ | with_reducible refine Row.alloc ?_ _ | (with_reducible refine Row.below ?_ (by assumption)) | ((with_reducible refine Row.other ?_ ?_ _); rotate_left; (focus (first | omega | (simp; omega) | (simp; done)))) | ((with_reducible refine Row.far' (by assumption) ?_ ?_); (focus (first | omega | (simp; omega) | (simp; done)))))), Row.alloc HS2.out _⟩
        case measure => simp [intOf]; omega
      · have HDS' := HDS rfl
        clear HDS HDN
        have HS1 : Hid (Row eInt (wr.setCell ⟨g1, j, none⟩ (.int .i64 pv)) g1 3 (some ⟨g1, 0, none⟩) c1 (D.set j pv)) := Lib.hid (R1.out.setInt hjD pv)
        have HS2 : Hid (Row encLineS ((wr.setCell ⟨g1, j, none⟩ (.int .i64 pv)).setCell ⟨g2, k * 3 + 2, none⟩ (.bool false)) g2 tyLineS (some ⟨g2, 0, none⟩) c2 (L.set k ⟨j, pv, false⟩)) := Lib.hid (by
          have := (R2.out.other (p := ⟨g1, j, none⟩) (by simp only; omega) (.int .i64 pv)).setCLineS hkL false
          rwa [HLK.out] at this)
        go_wp2
        go_roundw
        case rel =>
          refine ⟨k + 1, by omega, by go_num, (by repeat (first | with_reducible exact P0 | with_reducible refine Loc.drew ?_ | with_reducible refine Loc.drewN ?_ _ | with_reducible refine Loc.alloc ?_ _ | (with_reducible refine Loc.below ?_ (by assumption)) | ((with_reducible refine Loc.other' ?_ ?_ _); (focus (first | omega | (simp; omega) | (simp; done)))) | ((with_reducible refine Loc.far' (by assumption) ?_ ?_); (focus (first | omega | (simp; omega) | (simp; done)))))), (by repeat (first | with_reducible exact P1 | with_reducible refine Loc.drew ?_ | with_reducible refine Loc.drewN ?_ _ | with_reducible refine Loc.alloc ?_ _ | (with_reducible refine Loc.below ?_ (by assumption)) | ((with_reducible refine Loc.other' ?_ ?_ _); (focus (first | omega | (simp; omega) | (simp; done)))) | ((with_reducible refine Loc.far' (by assumption) ?_ ?_); (focus (first | omega | (simp; omega) | (simp; done)))))), (by repeat (first | with_reducible exact HBW.out | with_reducible exact Below.refl _ _ | with_reducible refine below_drewN ?_ _ | with_reducible refine Below.drew ?_ | with_reducible refine Below.alloc ?_ ?_ _ | with_reducible refine Below.setCell ?_ ?_ _ | (with_reducible refine Below.next ?_ (by assumption)) | ((with_reducible refine Below.far' (by assumption) ?_ ?_ ?_); (focus (first | omega | (simp; omega) | (simp; done))); (focus (first | omega | (simp; omega) | (simp; done)))) | omega | (focus (simp; omega)) | (focus (simp; done)))), D.set j pv, L.set k ⟨j, pv, false⟩, Lib.hid HDS'.out.symm, ⟨by simpa using hD1, by simpa using hD2⟩, Lib.hid HLS.out.symm, ⟨by simpa using hL1, by simpa using hL2⟩, (by repeat (first | with_reducible exact HS1.out | with_reducible refine Row.drew ?_ | with_reducible refine Row.drewN ?_ _ | with_reducible refine Row.alloc ?_ _ | (with_reducible refine Row.below ?_ (by assumption)) | ((with_reducible refine Row.other ?_ ?_ _); rotate_left; (focus (first | omega | (simp; omega) | (simp; done)))) | ((with_reducible refine Row.far' (by assumption) ?_ ?_); (focus (first | omega | (simp; omega) | (simp; done)))))), Row.alloc HS2.out _⟩
        case measure => simp [intOf]; omega
    · have he : k = l.length := by omega
      have HDE : Hid (D = flushD d l) := Lib.hid (by rw [HD.out, flushD_all d (by omega)])
      have HLE : Hid (L = cleanL l) := Lib.hid (by rw [HL.out, cleanTo_all (by omega)])
      have R1 := Lib.hid r1
      have R2 := Lib.hid r2
      have hD3 : (cleanL l).length = l.length := cleanL_len l
      have hD4 := flushD_len d l
      clear he r1 r2
      go_wp2
      refine bodyPost_ret (v := .tuple #[.agg #[.slice A2 l.length c2, .int .i64 m], .slice A1 d.length c1]) (by simp [results, Try.results57, go_sem, *]; done) rfl ⟨_, _, rfl, ?_, ?_, ?_, (by repeat (first | with_reducible exact HBW.out | with_reducible exact Below.refl _ _ | with_reducible refine below_drewN ?_ _ | with_reducible refine Below.drew ?_ | with_reducible refine Below.alloc ?_ ?_ _ | with_reducible refine Below.setCell ?_ ?_ _ | (with_reducible refine Below.next ?_ (by assumption)) | ((with_reducible refine Below.far' (by assumption) ?_ ?_ ?_); (focus (first | omega | (simp; omega) | (simp; done))); (focus (first | omega | (simp; omega) | (simp; done)))) | omega | (focus (simp; omega)) | (focus (simp; done))))⟩
      · rw [← hD3, ← HLE.out]
        exact SOwn.mono (SOwn.of_fresh (D := w.heap.size + 1 + 1) (by repeat (first | with_reducible exact R2.out | with_reducible refine Row.drew ?_ | with_reducible refine Row.drewN ?_ _ | with_reducible refine Row.alloc ?_ _ | (with_reducible refine Row.below ?_ (by assumption)) | ((with_reducible refine Row.other ?_ ?_ _); rotate_left; (focus (first | omega | (simp; omega) | (simp; done)))) | ((with_reducible refine Row.far' (by assumption) ?_ ?_); (focus (first | omega | (simp; omega) | (simp; done)))))) hB2) (by omega) (Nat.le_refl _)
      · rw [← hD4, ← HDE.out]
        exact SOwn.mono (SOwn.of_fresh (D := w.heap.size + 1 + 1) (by repeat (first | with_reducible exact R1.out | with_reducible refine Row.drew ?_ | with_reducible refine Row.drewN ?_ _ | with_reducible refine Row.alloc ?_ _ | (with_reducible refine Row.below ?_ (by assumption)) | ((with_reducible refine Row.other ?_ ?_ _); rotate_left; (focus (first | omega | (simp; omega) | (simp; done)))) | ((with_reducible refine Row.far' (by assumption) ?_ ?_); (focus (first | omega | (simp; omega) | (simp; done)))))) hB1) (by omega) (Nat.le_refl _)
      · intro a n c a' n' c' h1 h2
        cases h1
        cases h2
        rw [R2.out.addr, R1.out.addr]
        exact fun h => hne h.symm
theorem Row.pick {α : Type} {E : Enc α} {w : World} {g : Nat} {e : TypeId} {A : Option Addr} {c : Nat} {l : List α} (h : Row E w g e A c l) (N : Nat) : ∃ g', Row E w g' e A c l ∧ (g' = N ∨ (g' = g ∧ g < w.heap.size)) := by
  rcases h with h | ⟨cur, rfl, hh, r⟩
  · exact ⟨N, .inl h, .inl rfl⟩
  · exact ⟨g, .inr ⟨cur, rfl, hh, r⟩, .inr ⟨rfl, (Array.getElem?_eq_some_iff.1 hh).1⟩⟩
theorem cleanL_succ {l : List Ln} {k : Nat} (hk : k < l.length) : cleanL (l.take (k + 1)) = cleanL (l.take k) ++ [⟨l[k].at_, l[k].val, false⟩] := by
  unfold cleanL
  rw [List.take_succ_eq_append_getElem hk, List.map_append]; rfl
set_option maxHeartbeats 4000000 in
theorem specFlush_c (y u : Value) (l : List Ln) (m : Int) (d : List Int) (w : World) (hy : SRd encLineS w y l) (hu : SRd eInt w u d) (hd : diskB d = true) (hcb : cacheB l m d.length = true) :
    Calls Try.prog 53 #[.agg #[y, .int .i64 m], u] w (MadeCD (cleanL l) m (flushD d l) w) := by
  obtain ⟨A0, c0, rfl, ra, hc0, -⟩ := id hy
  obtain ⟨B0, d0, rfl, rb, -⟩ := id hu
  have hv := cache_iff.1 hcb
  have L0 := Loc.new w [.slice A0 l.length c0, .int .i64 m] 33
  have L1 := Loc.newAt (w.alloc (.cells #[.slice A0 l.length c0, .int .i64 m] 33)) [.slice none 0 0, .int .i64 0] 33 (b := w.heap.size + 1) (by simp)
  have hll : l.length ≤ 8 := by have := hv.len; have := hv.m1; omega
  have hdl : d.length ≤ 64 := by have := hv.n1; omega
  have n1 : ([] : List Int).length + d.length ≤ maxLen := by simp [maxLen]; omega
  have b1 : (([] : List Int).length + d.length) * 8 ≤ 140737488355328 := by simp; omega
  have HD := Lib.hid hd
  have HCB := Lib.hid hcb
  clear hd hcb
  go_enter Try.func53, Try.ntmps53
  go_wp2_with fail
  refine (specDisk_any B0 d0 d _ (rb.below (by repeat (first | with_reducible exact Below.refl _ _ | with_reducible refine below_drewN ?_ _ | with_reducible refine Below.drew ?_ | with_reducible refine Below.alloc ?_ ?_ _ | with_reducible refine Below.setCell ?_ ?_ _ | omega | (focus (simp; omega)) | (focus (simp; done))))) (by omega)).mono ?_
  rw [HD.out]
  rintro e w0 ⟨rfl, rfl⟩
  go_wp2_with fail
  refine (specCache_c A0 c0 l m d.length _ (ra.below (by repeat (first | with_reducible exact Below.refl _ _ | with_reducible refine below_drewN ?_ _ | with_reducible refine Below.drew ?_ | with_reducible refine Below.alloc ?_ ?_ _ | with_reducible refine Below.setCell ?_ ?_ _ | omega | (focus (simp; omega)) | (focus (simp; done))))) (by omega) (by omega)).mono ?_
  rw [HCB.out]
  rintro e w1 ⟨rfl, hb1⟩
  have M0 := Loc.carryB L0 (fun h => by ((repeat (first | with_reducible exact h | with_reducible refine Loc.drew ?_ | with_reducible refine Loc.drewN ?_ _ | with_reducible refine Loc.alloc ?_ _)); done)) hb1
  have M1 := Loc.carryB L1 (fun h => by ((repeat (first | with_reducible exact h | with_reducible refine Loc.drew ?_ | with_reducible refine Loc.drewN ?_ _ | with_reducible refine Loc.alloc ?_ _)); done)) hb1
  obtain ⟨k0, k1, kf⟩ := M0.two
  have W1 : Hid (Below w.heap.size w w1) := Lib.hid (Below.next (W := w) (by repeat (first | with_reducible exact Below.refl _ _ | with_reducible refine below_drewN ?_ _ | with_reducible refine Below.drew ?_ | with_reducible refine Below.alloc ?_ ?_ _ | with_reducible refine Below.setCell ?_ ?_ _ | omega | (focus (simp; omega)) | (focus (simp; done)))) hb1)
  have hz1 := hb1.size
  (try simp at hz1)
  have zM0 := M0.lt
  have zM1 := M1.lt
  have RB := Lib.hid (rb.below W1.out)
  have RA := Lib.hid (ra.below W1.out)
  have LX := Loc.newAt w1 [.slice none 0 0, .int .i64 m] 33 (b := w1.heap.size) rfl
  clear hb1
  go_wp2_with (at_builtin; refine wpList_append_row rfl _ _ rfl el_int rfl (by repeat (first | ((with_reducible refine Row.made0 ?_); (focus (first | with_reducible rfl | omega | (simp; omega) | (simp; done)))) | with_reducible refine Row.drew ?_ | with_reducible refine Row.drewN ?_ _ | with_reducible refine Row.alloc ?_ _ | (with_reducible refine Row.below ?_ (by assumption)))) _ _ d rfl (by repeat (first | with_reducible exact RB.out | with_reducible refine Rd.drew ?_ | with_reducible refine Rd.drewN ?_ _ | with_reducible refine Rd.alloc ?_ _ | (with_reducible refine Rd.below ?_ (by assumption)))) n1 b1 ?_; intro A1 c1 g1 w2 D0 hD0 hle1 hle2 row1 hg1 hgg1; have N0 := Loc.carry M0 (fun h => by ((repeat (first | with_reducible exact h | with_reducible refine Loc.drew ?_ | with_reducible refine Loc.drewN ?_ _ | with_reducible refine Loc.alloc ?_ _)); done)) hg1 (by first | omega | (simp; omega) | (simp; done)); have N1 := Loc.carry M1 (fun h => by ((repeat (first | with_reducible exact h | with_reducible refine Loc.drew ?_ | with_reducible refine Loc.drewN ?_ _ | with_reducible refine Loc.alloc ?_ _)); done)) hg1 (by first | omega | (simp; omega) | (simp; done)); have NX := Loc.carry LX (fun h => by ((repeat (first | with_reducible exact h | with_reducible refine Loc.drew ?_ | with_reducible refine Loc.drewN ?_ _ | with_reducible refine Loc.alloc ?_ _)); done)) hg1 (by first | omega | (simp; omega) | (simp; done)))
  have e1 := hD0.out
  simp only [List.nil_append] at e1
  subst e1
  have hz2 := hg1.size
  simp at hz2 hgg1
  have W2 : Hid (Below w.heap.size w w2) := Lib.hid (Below.gin (D := w.heap.size) (a := w) (by repeat (first | with_reducible exact W1.out | with_reducible exact Below.refl _ _ | with_reducible refine below_drewN ?_ _ | with_reducible refine Below.drew ?_ | with_reducible refine Below.alloc ?_ ?_ _ | with_reducible refine Below.setCell ?_ ?_ _ | (with_reducible refine Below.next ?_ (by assumption)) | ((with_reducible refine Below.far' (by assumption) ?_ ?_ ?_); (focus (first | omega | (simp; omega) | (simp; done))); (focus (first | omega | (simp; omega) | (simp; done)))) | omega | (focus (simp; omega)) | (focus (simp; done)))) (GIn.of_grown hg1 (Nat.le_refl _) (Nat.lt_succ_self _)) (by first | omega | (simp; omega) | (simp; done)) (by first | omega | (simp; omega) | (simp; done)))
  have RA2 : Hid (Rd encLineS w2 A0 l) := Lib.hid (ra.below W2.out)
  have hG1 : w1.heap.size + 1 ≤ g1 := by omega
  obtain ⟨q0, q1, qf⟩ := N0.two
  obtain ⟨x0, x1, xf⟩ := NX.two
  clear hD0 hle1 hle2 hgg1 hg1 k0 k1 kf M0 M1 LX
  go_loopw [8] (fun i wr => ∃ k : Nat, k ≤ l.length ∧ i = .int .i64 k ∧ Loc wr w.heap.size [.slice A0 l.length c0, .int .i64 m] ∧ Loc wr (w.heap.size + 1) [.slice none 0 0, .int .i64 0] ∧ Below w.heap.size w wr ∧ ∃ (D : List Int) (L : List Ln) (A2 : Option Addr) (c2 g2 : Nat), Loc wr w1.heap.size [.slice A2 L.length c2, .int .i64 m] ∧ Hid (D = flushD D0 (l.take k)) ∧ (D.length ≤ D0.length ∧ D0.length ≤ D.length) ∧ Hid (L = cleanL (l.take k)) ∧ (L.length ≤ k ∧ k ≤ L.length) ∧ Row eInt wr g1 3 A1 c1 D ∧ Row encLineS wr g2 tyLineS A2 c2 L ∧ (g1 ≠ g2 ∧ w1.heap.size + 1 ≤ g2)) (fun i _ => l.length - (intOf i).toNat)
  case atStart => exact ⟨0, Nat.zero_le _, rfl, N0, N1, W2.out, D0, [], none, 0, g1 + 1, NX, Lib.hid (by simp [flushD]), ⟨Nat.le_refl _, Nat.le_refl _⟩, Lib.hid (by simp [cleanL]), by simp, row1, Row.nil _ _ _, by omega, by omega⟩
  case round =>
    obtain ⟨k, hk, rfl, P0, P1, hbw, D, L, A2, c2, g20, PX, HDD, ⟨hD1, hD2⟩, HL, ⟨hL1, hL2⟩, r1, r20, hne0, hG20⟩ := hrel
    have HBW := Lib.hid hbw
    have hzw := hbw.size
    obtain ⟨g2, r2, hpk⟩ := r20.pick (wr.heap.size + g1 + w1.heap.size + 10)
    have hne : g1 ≠ g2 := by omega
    have hG2 : w1.heap.size + 1 ≤ g2 := by omega
    have hg20 : g2 ≠ wr.heap.size := by omega
    have hg21 : g2 ≠ wr.heap.size + 1 := by omega
    clear r20 hne0 hG20 hpk
    clear q0 q1 qf x0 x1 xf
    obtain ⟨q0, q1, qf⟩ := P0.two
    obtain ⟨x0, x1, xf⟩ := PX.two
    have zPX := PX.lt
    clear hbw
    by_cases hlt : k < l.length
    · obtain ⟨b, off, rfl, hbl, hc, hc2, hc3⟩ := (ra.below HBW.out).rLineS hlt
      have hbw0 : b < w.heap.size := ra.lt (by omega) rfl
      obtain ⟨p, hp⟩ : ∃ p, p = l[k]'hlt := ⟨_, rfl⟩
      have hpr := hv.rng _ (List.getElem_mem hlt)
      rw [← hp] at hc hc2 hc3 hpr
      have HP := Lib.hid hp
      clear hp
      obtain ⟨pa, pv, pd⟩ := p
      simp only at hc hc2 hc3 hpr
      obtain ⟨p0, p1, p2, p3⟩ := hpr
      obtain ⟨j, rfl⟩ := Int.eq_ofNat_of_zero_le p0
      have hjD : j < D.length := by omega
      obtain ⟨rfl, hg1l, hfz1, hcD⟩ := r1.int (by omega)
      have hcj := hcD j hjD
      clear hcD
      have hne1 : g1 ≠ wr.heap.size := by omega
      have hne3 : g1 ≠ wr.heap.size + 1 := by omega
      have HDS : pd = true → Hid (flushD D0 (l.take (k + 1)) = D.set j pv) := fun h => Lib.hid (by rw [flushD_succ D0 hlt, ← HDD.out, ← HP.out]; subst h; rfl)
      have HDN : pd = false → Hid (flushD D0 (l.take (k + 1)) = D) := fun h => Lib.hid (by rw [flushD_succ D0 hlt, ← HDD.out, ← HP.out]; subst h; rfl)
      have HLS : Hid (cleanL (l.take (k + 1)) = L ++ [⟨j, pv, false⟩]) := Lib.hid (by rw [cleanL_succ hlt, ← HL.out, ← HP.out])
      have R1 := Lib.hid r1
      have R2 := Lib.hid r2
      have h63 : L.length + [(⟨j, pv, false⟩ : Ln)].length ≤ maxLen := by simp [maxLen]; omega
      have hby : (L.length + [(⟨j, pv, false⟩ : Ln)].length) * 24 ≤ 140737488355328 := by simp; omega
      clear r1 r2
      cases pd
      · have HDN' := HDN rfl
        clear HDS HDN
        go_wp2_with (at_builtin; (refine wpList_append_row rfl _ _ rfl elLineS rfl (Row.alloc (Row.alloc R2.out _) _) _ _ [(⟨j, pv, false⟩ : Ln)] rfl (Rd.lit (by simp) rfl) h63 hby ?_); intro A3 c3 g3 w3 L3 hL3 hle3 hle4 row3 hg3 hgg3; have S0 := Loc.carry P0 (fun h => (by repeat (first | with_reducible exact h | with_reducible refine Loc.drew ?_ | with_reducible refine Loc.drewN ?_ _ | with_reducible refine Loc.alloc ?_ _ | (with_reducible refine Loc.below ?_ (by assumption)) | ((with_reducible refine Loc.other' ?_ ?_ _); (focus (first | omega | (simp; omega) | (simp; done)))) | ((with_reducible refine Loc.far' (by assumption) ?_ ?_); (focus (first | omega | (simp; omega) | (simp; done))))))) hg3 (by first | omega | (simp; omega) | (simp; done)); have S1 := Loc.carry P1 (fun h => (by repeat (first | with_reducible exact h | with_reducible refine Loc.drew ?_ | with_reducible refine Loc.drewN ?_ _ | with_reducible refine Loc.alloc ?_ _ | (with_reducible refine Loc.below ?_ (by assumption)) | ((with_reducible refine Loc.other' ?_ ?_ _); (focus (first | omega | (simp; omega) | (simp; done)))) | ((with_reducible refine Loc.far' (by assumption) ?_ ?_); (focus (first | omega | (simp; omega) | (simp; done))))))) hg3 (by first | omega | (simp; omega) | (simp; done)); have SX := Loc.carry PX (fun h => (by repeat (first | with_reducible exact h | with_reducible refine Loc.drew ?_ | with_reducible refine Loc.drewN ?_ _ | with_reducible refine Loc.alloc ?_ _ | (with_reducible refine Loc.below ?_ (by assumption)) | ((with_reducible refine Loc.other' ?_ ?_ _); (focus (first | omega | (simp; omega) | (simp; done)))) | ((with_reducible refine Loc.far' (by assumption) ?_ ?_); (focus (first | omega | (simp; omega) | (simp; done))))))) hg3 (by first | omega | (simp; omega) | (simp; done)); obtain ⟨s0, s1, sf⟩ := SX.two)
        have hz3 := hg3.size
        simp at hz3 hgg3 hle3 hle4
        have Z1 : Hid (Row eInt (w3.setCell ⟨w1.heap.size, 0, none⟩ (.slice A3 L3.length c3)) g1 3 (some ⟨g1, 0, none⟩) c1 (D)) := Lib.hid (Row.other (Row.grown (Row.alloc (Row.alloc R1.out _) _) hg3 hne) (by simp only; omega) _)
        have Z2 : Hid (Row encLineS (w3.setCell ⟨w1.heap.size, 0, none⟩ (.slice A3 L3.length c3)) g3 tyLineS A3 c3 L3) := Lib.hid (Row.other row3 (by simp only; omega) _)
        have Z3 : Hid (Below w.heap.size w (w3.setCell ⟨w1.heap.size, 0, none⟩ (.slice A3 L3.length c3))) := Lib.hid (Below.setCell (Below.grown1 (by repeat (first | with_reducible exact HBW.out | with_reducible exact Below.refl _ _ | with_reducible refine below_drewN ?_ _ | with_reducible refine Below.drew ?_ | with_reducible refine Below.alloc ?_ ?_ _ | with_reducible refine Below.setCell ?_ ?_ _ | (with_reducible refine Below.next ?_ (by assumption)) | ((with_reducible refine Below.far' (by assumption) ?_ ?_ ?_); (focus (first | omega | (simp; omega) | (simp; done))); (focus (first | omega | (simp; omega) | (simp; done)))) | omega | (focus (simp; omega)) | (focus (simp; done)))) hg3 (by simp; omega) (by omega)) (by simp only; omega) _)
        go_roundw
        case rel =>
          exact ⟨k + 1, by omega, by go_num, Loc.other' (p := ⟨w1.heap.size, 0, none⟩) (by simp only; omega) S0 _, Loc.other' (p := ⟨w1.heap.size, 0, none⟩) (by simp only; omega) S1 _, Z3.out, D, L3, A3, c3, g3, by simpa using SX.set 0 (.slice A3 L3.length c3), Lib.hid HDN'.out.symm, ⟨by first | omega | (simp; omega), by first | omega | (simp; omega)⟩, Lib.hid (by rw [hL3.out, HLS.out]), ⟨by omega, by omega⟩, Z1.out, Z2.out, by omega, by omega⟩
        case measure => simp [intOf]; omega
      · have HDS' := HDS rfl
        clear HDS HDN
        have HS1 : Hid (Row eInt (wr.setCell ⟨g1, j, none⟩ (.int .i64 pv)) g1 3 (some ⟨g1, 0, none⟩) c1 (D.set j pv)) := Lib.hid (R1.out.setInt hjD pv)
        go_wp2_with (at_builtin; (refine wpList_append_row rfl _ _ rfl elLineS rfl (Row.alloc (Row.alloc (Row.other R2.out (by simp only; omega) _) _) _) _ _ [(⟨j, pv, false⟩ : Ln)] rfl (Rd.lit (by simp) rfl) h63 hby ?_); intro A3 c3 g3 w3 L3 hL3 hle3 hle4 row3 hg3 hgg3; have S0 := Loc.carry P0 (fun h => (by repeat (first | with_reducible exact h | with_reducible refine Loc.drew ?_ | with_reducible refine Loc.drewN ?_ _ | with_reducible refine Loc.alloc ?_ _ | (with_reducible refine Loc.below ?_ (by assumption)) | ((with_reducible refine Loc.other' ?_ ?_ _); (focus (first | omega | (simp; omega) | (simp; done)))) | ((with_reducible refine Loc.far' (by assumption) ?_ ?_); (focus (first | omega | (simp; omega) | (simp; done))))))) hg3 (by first | omega | (simp; omega) | (simp; done)); have S1 := Loc.carry P1 (fun h => (by repeat (first | with_reducible exact h | with_reducible refine Loc.drew ?_ | with_reducible refine Loc.drewN ?_ _ | with_reducible refine Loc.alloc ?_ _ | (with_reducible refine Loc.below ?_ (by assumption)) | ((with_reducible refine Loc.other' ?_ ?_ _); (focus (first | omega | (simp; omega) | (simp; done)))) | ((with_reducible refine Loc.far' (by assumption) ?_ ?_); (focus (first | omega | (simp; omega) | (simp; done))))))) hg3 (by first | omega | (simp; omega) | (simp; done)); have SX := Loc.carry PX (fun h => (by repeat (first | with_reducible exact h | with_reducible refine Loc.drew ?_ | with_reducible refine Loc.drewN ?_ _ | with_reducible refine Loc.alloc ?_ _ | (with_reducible refine Loc.below ?_ (by assumption)) | ((with_reducible refine Loc.other' ?_ ?_ _); (focus (first | omega | (simp; omega) | (simp; done)))) | ((with_reducible refine Loc.far' (by assumption) ?_ ?_); (focus (first | omega | (simp; omega) | (simp; done))))))) hg3 (by first | omega | (simp; omega) | (simp; done)); obtain ⟨s0, s1, sf⟩ := SX.two)
        have hz3 := hg3.size
        simp at hz3 hgg3 hle3 hle4
        have Z1 : Hid (Row eInt (w3.setCell ⟨w1.heap.size, 0, none⟩ (.slice A3 L3.length c3)) g1 3 (some ⟨g1, 0, none⟩) c1 (D.set j pv)) := Lib.hid (Row.other (Row.grown (Row.alloc (Row.alloc HS1.out _) _) hg3 hne) (by simp only; omega) _)
        have Z2 : Hid (Row encLineS (w3.setCell ⟨w1.heap.size, 0, none⟩ (.slice A3 L3.length c3)) g3 tyLineS A3 c3 L3) := Lib.hid (Row.other row3 (by simp only; omega) _)
        have Z3 : Hid (Below w.heap.size w (w3.setCell ⟨w1.heap.size, 0, none⟩ (.slice A3 L3.length c3))) := Lib.hid (Below.setCell (Below.grown1 (by repeat (first | with_reducible exact HBW.out | with_reducible exact Below.refl _ _ | with_reducible refine below_drewN ?_ _ | with_reducible refine Below.drew ?_ | with_reducible refine Below.alloc ?_ ?_ _ | with_reducible refine Below.setCell ?_ ?_ _ | (with_reducible refine Below.next ?_ (by assumption)) | ((with_reducible refine Below.far' (by assumption) ?_ ?_ ?_); (focus (first | omega | (simp; omega) | (simp; done))); (focus (first | omega | (simp; omega) | (simp; done)))) | omega | (focus (simp; omega)) | (focus (simp; done)))) hg3 (by simp; omega) (by omega)) (by simp only; omega) _)
        go_roundw
        case rel =>
          exact ⟨k + 1, by omega, by go_num, Loc.other' (p := ⟨w1.heap.size, 0, none⟩) (by simp only; omega) S0 _, Loc.other' (p := ⟨w1.heap.size, 0, none⟩) (by simp only; omega) S1 _, Z3.out, D.set j pv, L3, A3, c3, g3, by simpa using SX.set 0 (.slice A3 L3.length c3), Lib.hid HDS'.out.symm, ⟨by first | omega | (simp; omega), by first | omega | (simp; omega)⟩, Lib.hid (by rw [hL3.out, HLS.out]), ⟨by omega, by omega⟩, Z1.out, Z2.out, by omega, by omega⟩
        case measure => simp [intOf]; omega
    · have he : k = l.length := by omega
      have HDE : Hid (D = flushD D0 l) := Lib.hid (by rw [HDD.out, flushD_all D0 (by omega)])
      have HLE : Hid (L = cleanL l) := Lib.hid (by rw [HL.out, List.take_of_length_le (by omega)])
      have R1 := Lib.hid r1
      have R2 := Lib.hid r2
      have hD4 := flushD_len D0 l
      obtain ⟨y0, y1, yf⟩ := P1.two
      clear he r1 r2
      have hD3 : (cleanL l).length = l.length := cleanL_len l
      have hL4 : L.length = (cleanL l).length := by rw [hD3]; omega
      go_wp2
      refine bodyPost_ret (v := .tuple #[.agg #[.slice A2 L.length c2, .int .i64 m], .slice A1 D0.length c1]) (by simp [results, Try.results53, go_sem, *]; done) rfl ⟨_, _, rfl, ?_, ?_, ?_, (by repeat (first | with_reducible exact HBW.out | with_reducible exact Below.refl _ _ | with_reducible refine below_drewN ?_ _ | with_reducible refine Below.drew ?_ | with_reducible refine Below.alloc ?_ ?_ _ | with_reducible refine Below.setCell ?_ ?_ _ | (with_reducible refine Below.next ?_ (by assumption)) | ((with_reducible refine Below.far' (by assumption) ?_ ?_ ?_); (focus (first | omega | (simp; omega) | (simp; done))); (focus (first | omega | (simp; omega) | (simp; done)))) | omega | (focus (simp; omega)) | (focus (simp; done))))⟩
      · rw [← HLE.out]
        exact SOwn.mono (SOwn.of_fresh (D := w1.heap.size + 1) (by repeat (first | with_reducible exact R2.out | with_reducible refine Row.drew ?_ | with_reducible refine Row.drewN ?_ _ | with_reducible refine Row.alloc ?_ _ | (with_reducible refine Row.below ?_ (by assumption)) | ((with_reducible refine Row.other ?_ ?_ _); rotate_left; (focus (first | omega | (simp; omega) | (simp; done)))) | ((with_reducible refine Row.far' (by assumption) ?_ ?_); (focus (first | omega | (simp; omega) | (simp; done)))))) hG2) (by omega) (Nat.le_refl _)
      · rw [← hD4, ← HDE.out]
        exact SOwn.mono (SOwn.of_fresh (D := w1.heap.size + 1) (by repeat (first | with_reducible exact R1.out | with_reducible refine Row.drew ?_ | with_reducible refine Row.drewN ?_ _ | with_reducible refine Row.alloc ?_ _ | (with_reducible refine Row.below ?_ (by assumption)) | ((with_reducible refine Row.other ?_ ?_ _); rotate_left; (focus (first | omega | (simp; omega) | (simp; done)))) | ((with_reducible refine Row.far' (by assumption) ?_ ?_); (focus (first | omega | (simp; omega) | (simp; done)))))) hG1) (by omega) (Nat.le_refl _)
      · intro a n c a' n' c' h1 h2
        cases h1
        cases h2
        rw [R2.out.addr, R1.out.addr]
        exact fun h => hne h.symm
end Go.Proofs.Ytlhbjfjphckifaa
