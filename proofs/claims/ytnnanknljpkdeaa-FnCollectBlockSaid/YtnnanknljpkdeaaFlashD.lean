/-
  Flash memories: the spread of wear. Conditions: lengths at most 2^40.
-/
import Derived.Test.YtnnanknljpkdeaaBase
import Derived.Test.YtnnanknljpkdeaaNum
import Derived.Test.YtnnanknljpkdeaaInts
import Derived.Test.YtnnanknljpkdeaaApp
import Derived.Test.YtnnanknljpkdeaaIntsW
import Derived.Test.YtnnanknljpkdeaaLib
import Derived.Test.YtnnanknljpkdeaaSpares
import Derived.Test.YtnnanknljpkdeaaOwn
import Derived.Test.YtnnanknljpkdeaaPage
import Derived.Test.YtnnanknljpkdeaaFlash
import Derived.Test.YtnnanknljpkdeaaFlashM
import Derived.Test.YtnnanknljpkdeaaFlashC
namespace Go.Proofs.Ytnnanknljpkdeaa
open Go.RowKit
def maxL (l : List Int) : Int := l.foldl max (l.getD 0 0)
def minL (l : List Int) : Int := l.foldl min (l.getD 0 0)
def maxTo (l : List Int) (k : Nat) : Int := (l.take k).foldl max (l.getD 0 0)
def minTo (l : List Int) (k : Nat) : Int := (l.take k).foldl min (l.getD 0 0)
theorem maxTo_succ {l : List Int} {k : Nat} (h : k < l.length) : maxTo l (k + 1) = max (maxTo l k) l[k] := by
  unfold maxTo; rw [List.take_succ_eq_append_getElem h, List.foldl_append]; rfl
theorem minTo_succ {l : List Int} {k : Nat} (h : k < l.length) : minTo l (k + 1) = min (minTo l k) l[k] := by
  unfold minTo; rw [List.take_succ_eq_append_getElem h, List.foldl_append]; rfl
theorem maxTo_one {l : List Int} (h : 0 < l.length) : maxTo l 1 = l[0] := by rw [maxTo_succ h]; simp [maxTo, h]
theorem minTo_one {l : List Int} (h : 0 < l.length) : minTo l 1 = l[0] := by rw [minTo_succ h]; simp [minTo, h]
theorem maxTo_zero {l : List Int} (h : 0 < l.length) : maxTo l 0 = l[0] := by simp [maxTo, h]
theorem minTo_zero {l : List Int} (h : 0 < l.length) : minTo l 0 = l[0] := by simp [minTo, h]
theorem maxTo_all {l : List Int} {k : Nat} (h : l.length ≤ k) : maxTo l k = maxL l := by unfold maxTo maxL; rw [List.take_of_length_le h]
theorem minTo_all {l : List Int} {k : Nat} (h : l.length ≤ k) : minTo l k = minL l := by unfold minTo minL; rw [List.take_of_length_le h]
theorem maxTo_in {l : List Int} {lo hi : Int} (h : ∀ x ∈ l, lo ≤ x ∧ x ≤ hi) (h0 : 0 < l.length) (k : Nat) (hk : k ≤ l.length) : lo ≤ maxTo l k ∧ maxTo l k ≤ hi := by
  induction k with
  | zero => rw [maxTo_zero h0]; exact h _ (List.getElem_mem h0)
  | succ k ih => rw [maxTo_succ (by omega)]; have := ih (by omega); have := h _ (List.getElem_mem (show k < l.length by omega)); omega
theorem minTo_in {l : List Int} {lo hi : Int} (h : ∀ x ∈ l, lo ≤ x ∧ x ≤ hi) (h0 : 0 < l.length) (k : Nat) (hk : k ≤ l.length) : lo ≤ minTo l k ∧ minTo l k ≤ hi := by
  induction k with
  | zero => rw [minTo_zero h0]; exact h _ (List.getElem_mem h0)
  | succ k ih => rw [minTo_succ (by omega)]; have := ih (by omega); have := h _ (List.getElem_mem (show k < l.length by omega)); omega
def wearB (f : Fl) : Int := if flashB f then maxL f.erases - minL f.erases else -1
set_option maxHeartbeats 1000000 in
theorem maxL_any (A : Option Addr) (c : Nat) (l : List Int) (w : World) (ha : Rd eInt w A l) (h0 : 0 < l.length) (hl : l.length ≤ 1099511627776) (hin : ∀ x ∈ l, 0 ≤ x ∧ x ≤ 1000000) :
    Calls Try.prog 59 #[.slice A l.length c] w fun e w' => e = .returned (.int .i64 (maxL l)) ∧ w = w' := by
  have HIN := Lib.hid hin
  clear hin
  obtain ⟨b, off, rfl, hbl, hcs⟩ := ha.ints h0
  have h00 := hcs 0 h0
  simp only [Nat.add_zero] at h00
  have h1 := Lib.hid (maxTo_one h0)
  go_enter Try.func59, Try.ntmps59
  go_wp2
  go_loop [3, 4] (fun m i => ∃ k : Nat, 1 ≤ k ∧ k ≤ l.length ∧ i = .int .i64 k ∧ m = .int .i64 (maxTo l k)) (fun _ i => l.length - (intOf i).toNat)
  case atStart => exact ⟨1, Nat.le_refl _, by omega, rfl, by rw [h1.out]⟩
  case round =>
    obtain ⟨k, hk1, hk, rfl, rfl⟩ := hrel
    by_cases hlt : k < l.length
    · have hck := hcs k hlt
      have hi := maxTo_in HIN.out h0 k hk
      have hs := Lib.hid (maxTo_succ hlt)
      obtain ⟨x, hx⟩ : ∃ x, x = l[k]'hlt := ⟨_, rfl⟩
      obtain ⟨m, hm⟩ : ∃ m, m = maxTo l k := ⟨_, rfl⟩
      rw [← hx] at hck hs
      rw [← hm] at hi hs
      rw [← hm]
      clear hx hm h00 hcs
      obtain ⟨m0, m1⟩ := hi
      by_cases hle : m ≤ x
      all_goals
        go_wp2
        go_round
        case rel => exact ⟨k + 1, by omega, by omega, by go_num, by rw [hs.out]; first | rfl | (congr 1; omega)⟩
        case measure => simp [intOf]; omega
    · go_wp2
      go_ret
      exact ⟨ret_int (maxTo_all (by omega)), rfl⟩
set_option maxHeartbeats 1000000 in
theorem minL_any (A : Option Addr) (c : Nat) (l : List Int) (w : World) (ha : Rd eInt w A l) (h0 : 0 < l.length) (hl : l.length ≤ 1099511627776) (hin : ∀ x ∈ l, 0 ≤ x ∧ x ≤ 1000000) :
    Calls Try.prog 60 #[.slice A l.length c] w fun e w' => e = .returned (.int .i64 (minL l)) ∧ w = w' := by
  have HIN := Lib.hid hin
  clear hin
  obtain ⟨b, off, rfl, hbl, hcs⟩ := ha.ints h0
  have h00 := hcs 0 h0
  simp only [Nat.add_zero] at h00
  have h1 := Lib.hid (minTo_one h0)
  go_enter Try.func60, Try.ntmps60
  go_wp2
  go_loop [3, 4] (fun m i => ∃ k : Nat, 1 ≤ k ∧ k ≤ l.length ∧ i = .int .i64 k ∧ m = .int .i64 (minTo l k)) (fun _ i => l.length - (intOf i).toNat)
  case atStart => exact ⟨1, Nat.le_refl _, by omega, rfl, by rw [h1.out]⟩
  case round =>
    obtain ⟨k, hk1, hk, rfl, rfl⟩ := hrel
    by_cases hlt : k < l.length
    · have hck := hcs k hlt
      have hi := minTo_in HIN.out h0 k hk
      have hs := Lib.hid (minTo_succ hlt)
      obtain ⟨x, hx⟩ : ∃ x, x = l[k]'hlt := ⟨_, rfl⟩
      obtain ⟨m, hm⟩ : ∃ m, m = minTo l k := ⟨_, rfl⟩
      rw [← hx] at hck hs
      rw [← hm] at hi hs
      rw [← hm]
      clear hx hm h00 hcs
      obtain ⟨m0, m1⟩ := hi
      by_cases hle : m ≤ x
      all_goals
        go_wp2
        go_round
        case rel => exact ⟨k + 1, by omega, by omega, by go_num, by rw [hs.out]; first | rfl | (congr 1; omega)⟩
        case measure => simp [intOf]; omega
    · go_wp2
      go_ret
      exact ⟨ret_int (minTo_all (by omega)), rfl⟩
theorem flash_ers {f : Fl} (h : flashB f = true) : 0 < f.erases.length ∧ ∀ x ∈ f.erases, 0 ≤ x ∧ x ≤ 1000000 := by
  have := flashB_iff.1 h
  exact ⟨by have := this.n2; omega, this.ers⟩
theorem flashRd_lens {x0 x1 : Value} {t : Fl} {w : World} (h : FlashRd w [x0, x1] t) : ∃ A c A' c', x0 = .slice A t.pages.length c ∧ x1 = .slice A' t.erases.length c' := by
  obtain ⟨u, v, h1, ⟨A, c, rfl, _⟩, ⟨A', c', rfl, _⟩⟩ := h
  simp only [List.cons.injEq, and_true] at h1
  exact ⟨A, c, A', c', h1.1, h1.2⟩
theorem FlashRd.ers {x0 : Value} {t : Fl} {w : World} {A' : Option Addr} {c' : Nat} (h : FlashRd w [x0, .slice A' t.erases.length c'] t) : Rd eInt w A' t.erases := by
  obtain ⟨u, v, h1, _, ⟨A2, c2, rfl, hr, _⟩⟩ := h
  simp only [List.cons.injEq, and_true] at h1
  obtain ⟨rfl, h2⟩ := h1
  injection h2 with h2 _ _
  rw [h2]; exact hr
theorem FlashRd.pgs {x1 : Value} {t : Fl} {w : World} {A : Option Addr} {c : Nat} (h : FlashRd w [.slice A t.pages.length c, x1] t) : Rd encPageS w A t.pages := by
  obtain ⟨u, v, h1, ⟨A2, c2, rfl, hr, _⟩, _⟩ := h
  simp only [List.cons.injEq, and_true] at h1
  obtain ⟨h2, rfl⟩ := h1
  injection h2 with h2 _ _
  rw [h2]; exact hr
set_option maxHeartbeats 2000000 in
theorem implWear_c (x0 x1 : Value) (f : Fl) (w : World) (h : FlashRd w [x0, x1] f) (hs : sizeFlash f ≤ 1099511627776) :
    Calls Try.prog 26 #[.agg #[x0, x1]] w fun e w' => e = .returned (.int .i64 (wearB f)) ∧ Below w.heap.size w w' := by
  obtain ⟨A, c, A', c', rfl, rfl⟩ := flashRd_lens h
  have HR := Lib.hid h
  have L0 := Loc.new w [.slice A f.pages.length c, .slice A' f.erases.length c'] 30
  cases hv : flashB f
  · have HV := Lib.hid hv
    clear hv
    have hw : Hid (wearB f = -1) := Lib.hid (by unfold wearB; rw [HV.out]; rfl)
    go_enter Try.func26, Try.ntmps26
    go_wp2_with fail
    refine (implFlash_c _ _ f _ (FlashRd.below HR.out (by repeat (first | with_reducible exact Below.refl _ _ | with_reducible refine below_drewN ?_ _ | with_reducible refine Below.drew ?_ | with_reducible refine Below.alloc ?_ ?_ _ | with_reducible refine Below.setCell ?_ ?_ _ | omega | (focus (simp; omega)) | (focus (simp; done))))) hs).mono ?_
    rw [HV.out]
    rintro e w1 ⟨rfl, hb1⟩
    go_wp2
    go_ret
    exact ⟨ret_int hw.out.symm, (by repeat (first | with_reducible exact Below.refl _ _ | with_reducible assumption | with_reducible refine below_drewN ?_ _ | with_reducible refine Below.drew ?_ | with_reducible refine Below.alloc ?_ ?_ _ | with_reducible refine Below.setCell ?_ ?_ _ | (with_reducible refine Below.next ?_ (by assumption)) | omega | (focus (simp; omega)) | (focus (simp; done))))⟩
  · have HV := Lib.hid hv
    clear hv
    obtain ⟨h0, hin⟩ := flash_ers HV.out
    have HIN := Lib.hid hin
    clear hin
    have hmx := maxTo_in HIN.out h0 _ (Nat.le_refl _)
    have hmn := minTo_in HIN.out h0 _ (Nat.le_refl _)
    rw [maxTo_all (Nat.le_refl _)] at hmx
    rw [minTo_all (Nat.le_refl _)] at hmn
    have hw : Hid (wearB f = maxL f.erases - minL f.erases) := Lib.hid (by unfold wearB; rw [HV.out]; rfl)
    have hl : f.erases.length ≤ 1099511627776 := by unfold sizeFlash at hs; omega
    obtain ⟨mx, hmxe⟩ : ∃ m, m = maxL f.erases := ⟨_, rfl⟩
    obtain ⟨mn, hmne⟩ : ∃ m, m = minL f.erases := ⟨_, rfl⟩
    rw [← hmxe] at hmx hw
    rw [← hmne] at hmn hw
    have HX := Lib.hid hmxe
    have HN := Lib.hid hmne
    clear hmxe hmne
    obtain ⟨x0', x1'⟩ := hmx
    obtain ⟨n0', n1'⟩ := hmn
    go_enter Try.func26, Try.ntmps26
    go_wp2_with fail
    refine (implFlash_c _ _ f _ (FlashRd.below HR.out (by repeat (first | with_reducible exact Below.refl _ _ | with_reducible refine below_drewN ?_ _ | with_reducible refine Below.drew ?_ | with_reducible refine Below.alloc ?_ ?_ _ | with_reducible refine Below.setCell ?_ ?_ _ | omega | (focus (simp; omega)) | (focus (simp; done))))) hs).mono ?_
    rw [HV.out]
    rintro e w1 ⟨rfl, hb1⟩
    have M0 := Loc.carryB L0 (fun h => by ((repeat (first | with_reducible exact h | with_reducible refine Loc.drew ?_ | with_reducible refine Loc.drewN ?_ _ | with_reducible refine Loc.alloc ?_ _)); done)) hb1
    obtain ⟨k0, k1, kf⟩ := M0.two
    have hre := FlashRd.ers (FlashRd.below HR.out (Below.next (W := w) (by repeat (first | with_reducible exact Below.refl _ _ | with_reducible refine below_drewN ?_ _ | with_reducible refine Below.drew ?_ | with_reducible refine Below.alloc ?_ ?_ _ | with_reducible refine Below.setCell ?_ ?_ _ | omega | (focus (simp; omega)) | (focus (simp; done)))) hb1))
    go_wp2
    have CX : Hid (∀ n, Calls Try.prog 59 #[.slice A' f.erases.length c'] (w1.drewN n) fun e w' => e = .returned (.int .i64 mx) ∧ w1.drewN n = w') := Lib.hid fun n => by
      rw [HX.out]; exact maxL_any A' c' f.erases _ (Rd.drewN hre n) h0 hl HIN.out
    have CN : Hid (∀ n, Calls Try.prog 60 #[.slice A' f.erases.length c'] (w1.drewN n) fun e w' => e = .returned (.int .i64 mn) ∧ w1.drewN n = w') := Lib.hid fun n => by
      rw [HN.out]; exact minL_any A' c' f.erases _ (Rd.drewN hre n) h0 hl HIN.out
    go_quiet ((first | (go_at_call 59; (first | exact quiet_left (CX.out _) | exact quiet_add_left (CX.out _))) | (go_at_call 60; (first | exact quiet_left (CN.out _) | exact quiet_add_left (CN.out _)))))
    go_wp2
    go_ret
    exact ⟨ret_int hw.out.symm, (by repeat (first | with_reducible exact Below.refl _ _ | with_reducible assumption | with_reducible refine below_drewN ?_ _ | with_reducible refine Below.drew ?_ | with_reducible refine Below.alloc ?_ ?_ _ | with_reducible refine Below.setCell ?_ ?_ _ | (with_reducible refine Below.next ?_ (by assumption)) | omega | (focus (simp; omega)) | (focus (simp; done))))⟩
set_option maxHeartbeats 2000000 in
theorem specWear_c (x0 x1 : Value) (f : Fl) (w : World) (h : FlashRd w [x0, x1] f) (hs : sizeFlash f ≤ 1099511627776) :
    Calls Try.prog 25 #[.agg #[x0, x1]] w fun e w' => e = .returned (.int .i64 (wearB f)) ∧ Below w.heap.size w w' := by
  obtain ⟨A, c, A', c', rfl, rfl⟩ := flashRd_lens h
  have HR := Lib.hid h
  have L0 := Loc.new w [.slice A f.pages.length c, .slice A' f.erases.length c'] 30
  cases hv : flashB f
  · have HV := Lib.hid hv
    clear hv
    have hw : Hid (wearB f = -1) := Lib.hid (by unfold wearB; rw [HV.out]; rfl)
    go_enter Try.func25, Try.ntmps25
    go_wp2_with fail
    refine (specFlash_c _ _ f _ (FlashRd.below HR.out (by repeat (first | with_reducible exact Below.refl _ _ | with_reducible refine below_drewN ?_ _ | with_reducible refine Below.drew ?_ | with_reducible refine Below.alloc ?_ ?_ _ | with_reducible refine Below.setCell ?_ ?_ _ | omega | (focus (simp; omega)) | (focus (simp; done))))) hs).mono ?_
    rw [HV.out]
    rintro e w1 ⟨rfl, hb1⟩
    go_wp2
    go_ret
    exact ⟨ret_int hw.out.symm, (by repeat (first | with_reducible exact Below.refl _ _ | with_reducible assumption | with_reducible refine below_drewN ?_ _ | with_reducible refine Below.drew ?_ | with_reducible refine Below.alloc ?_ ?_ _ | with_reducible refine Below.setCell ?_ ?_ _ | (with_reducible refine Below.next ?_ (by assumption)) | omega | (focus (simp; omega)) | (focus (simp; done))))⟩
  · have HV := Lib.hid hv
    clear hv
    obtain ⟨h0, hin⟩ := flash_ers HV.out
    have HIN := Lib.hid hin
    clear hin
    have hmx := maxTo_in HIN.out h0 _ (Nat.le_refl _)
    have hmn := minTo_in HIN.out h0 _ (Nat.le_refl _)
    rw [maxTo_all (Nat.le_refl _)] at hmx
    rw [minTo_all (Nat.le_refl _)] at hmn
    have hw : Hid (wearB f = maxL f.erases - minL f.erases) := Lib.hid (by unfold wearB; rw [HV.out]; rfl)
    have hl : f.erases.length ≤ 1099511627776 := by unfold sizeFlash at hs; omega
    go_enter Try.func25, Try.ntmps25
    go_wp2_with fail
    refine (specFlash_c _ _ f _ (FlashRd.below HR.out (by repeat (first | with_reducible exact Below.refl _ _ | with_reducible refine below_drewN ?_ _ | with_reducible refine Below.drew ?_ | with_reducible refine Below.alloc ?_ ?_ _ | with_reducible refine Below.setCell ?_ ?_ _ | omega | (focus (simp; omega)) | (focus (simp; done))))) hs).mono ?_
    rw [HV.out]
    rintro e w1 ⟨rfl, hb1⟩
    have M0 := Loc.carryB L0 (fun h => by ((repeat (first | with_reducible exact h | with_reducible refine Loc.drew ?_ | with_reducible refine Loc.drewN ?_ _ | with_reducible refine Loc.alloc ?_ _)); done)) hb1
    obtain ⟨k0, k1, kf⟩ := M0.two
    have hre := FlashRd.ers (FlashRd.below HR.out (Below.next (W := w) (by repeat (first | with_reducible exact Below.refl _ _ | with_reducible refine below_drewN ?_ _ | with_reducible refine Below.drew ?_ | with_reducible refine Below.alloc ?_ ?_ _ | with_reducible refine Below.setCell ?_ ?_ _ | omega | (focus (simp; omega)) | (focus (simp; done)))) hb1))
    obtain ⟨b, off, rfl, hbl, hcs⟩ := hre.ints h0
    have h00 := hcs 0 h0
    simp only [Nat.add_zero] at h00
    have z0 := Lib.hid (maxTo_zero h0)
    have z1 := Lib.hid (minTo_zero h0)
    obtain ⟨y, hy⟩ : ∃ y, y = f.erases[0]'h0 := ⟨_, rfl⟩
    rw [← hy] at h00 z0 z1
    clear hy
    go_wp2
    go_loop [3, 4, 5] (fun lo hi i => ∃ k : Nat, k ≤ f.erases.length ∧ i = .int .i64 k ∧ hi = .int .i64 (maxTo f.erases k) ∧ lo = .int .i64 (minTo f.erases k)) (fun _ _ i => f.erases.length - (intOf i).toNat)
    case atStart => exact ⟨0, by omega, rfl, by rw [z0.out], by rw [z1.out]⟩
    case round =>
      obtain ⟨k, hk, rfl, rfl, rfl⟩ := hrel
      by_cases hlt : k < f.erases.length
      · have hck := hcs k hlt
        have hi1 := maxTo_in HIN.out h0 k hk
        have hi2 := minTo_in HIN.out h0 k hk
        have hs1 := Lib.hid (maxTo_succ hlt)
        have hs2 := Lib.hid (minTo_succ hlt)
        obtain ⟨x, hx⟩ : ∃ x, x = f.erases[k]'hlt := ⟨_, rfl⟩
        obtain ⟨m, hm⟩ : ∃ m, m = maxTo f.erases k := ⟨_, rfl⟩
        obtain ⟨n, hn⟩ : ∃ m, m = minTo f.erases k := ⟨_, rfl⟩
        rw [← hx] at hck hs1 hs2
        rw [← hm] at hi1 hs1
        rw [← hn] at hi2 hs2
        rw [← hm, ← hn]
        clear hx hm hn h00 hcs
        by_cases hle : m ≤ x
        all_goals by_cases hle2 : x ≤ n
        all_goals
          go_wp2
          go_round
          case rel => exact ⟨k + 1, by omega, by go_num, by rw [hs1.out]; first | rfl | (congr 1; omega), by rw [hs2.out]; first | rfl | (congr 1; omega)⟩
          case measure => simp [intOf]; omega
      · have e1 := Lib.hid (maxTo_all (l := f.erases) (k := k) (by omega))
        have e2 := Lib.hid (minTo_all (l := f.erases) (k := k) (by omega))
        have hi1 := maxTo_in HIN.out h0 k hk
        have hi2 := minTo_in HIN.out h0 k hk
        go_wp2
        go_ret
        exact ⟨ret_int (by rw [hw.out, ← e1.out, ← e2.out]), (by repeat (first | with_reducible exact Below.refl _ _ | with_reducible assumption | with_reducible refine below_drewN ?_ _ | with_reducible refine Below.drew ?_ | with_reducible refine Below.alloc ?_ ?_ _ | with_reducible refine Below.setCell ?_ ?_ _ | (with_reducible refine Below.next ?_ (by assumption)) | omega | (focus (simp; omega)) | (focus (simp; done))))⟩
end Go.Proofs.Ytnnanknljpkdeaa
