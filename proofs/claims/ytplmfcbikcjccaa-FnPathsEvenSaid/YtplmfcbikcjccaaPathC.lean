/-
  Contracts of the choice of a path and of sending. Conditions: lengths at most 2^40.
-/
import Derived.Test.YtplmfcbikcjccaaBase
import Derived.Test.YtplmfcbikcjccaaNum
import Derived.Test.YtplmfcbikcjccaaInts
import Derived.Test.YtplmfcbikcjccaaApp
import Derived.Test.YtplmfcbikcjccaaIntsW
import Derived.Test.YtplmfcbikcjccaaLib
import Derived.Test.YtplmfcbikcjccaaPathM
import Derived.Test.YtplmfcbikcjccaaPath
namespace Go.Proofs.Ytplmfcbikcjccaa
open Go.RowKit
theorem bestTo_next {l : List Pth} {k : Nat} {best : Int} {p : Pth} (hb : best = bestTo l k) (hk : k < l.length) (hp : p = l[k]) (x : Bool) (hx : betterB l best p = x) : bestTo l (k + 1) = if x then (k : Int) else best := by
  rw [bestTo, ← hb, show l.getD k default = p by rw [hp]; simp [hk], hx]
theorem better_up {l : List Pth} {best : Int} {u : Bool} {v : Int} (h : u = false) : betterB l best ⟨u, v⟩ = false := by simp [betterB, h]
theorem better_load {l : List Pth} {best : Int} {u : Bool} {v : Int} (h : decide (v < 1000) = false) : betterB l best ⟨u, v⟩ = false := by simp [betterB, h]
theorem better_first {l : List Pth} {best : Int} {v : Int} (h : decide (v < 1000) = true) (hb : best < 0) : betterB l best ⟨true, v⟩ = true := by simp [betterB, h, hb]
theorem better_less {l : List Pth} {b : Nat} {v y : Int} (h : decide (v < 1000) = true) (hb : b < l.length) (hy : y = l[b].load) : betterB l (b : Int) ⟨true, v⟩ = decide (v < y) := by
  subst hy
  simp only [betterB, h, Bool.true_and, Int.toNat_natCast]
  have : decide ((b : Int) < 0) = false := by simp
  rw [this]
  simp [hb]
set_option maxHeartbeats 2000000 in
theorem choosePath_any (A : Option Addr) (c : Nat) (l : List Pth) (w : World) (ha : Rd ePath w A l) (hl : l.length ≤ 1099511627776) :
    Calls Try.prog 37 #[.slice A l.length c] w fun e w' => e = .returned (.int .i64 (bestTo l l.length)) ∧ Below w.heap.size w w' := by
  go_enter Try.func37, Try.ntmps37
  go_wp2
  go_loopw [3, 8] (fun best i wr => ∃ k : Nat, k ≤ l.length ∧ i = .int .i64 k ∧ best = .int .i64 (bestTo l k) ∧ Below w.heap.size w wr) (fun _ i _ => l.length - (intOf i).toNat)
  case atStart => exact ⟨0, Nat.zero_le _, rfl, rfl, (by repeat (first | with_reducible exact Below.refl _ _ | with_reducible assumption | with_reducible refine below_drewN ?_ _ | with_reducible refine Below.drew ?_ | with_reducible refine Below.alloc ?_ ?_ _ | with_reducible refine Below.setCell ?_ ?_ _ | (with_reducible refine Below.next ?_ (by assumption)) | omega | (focus (simp; omega)) | (focus (simp; done))))⟩
  case round =>
    obtain ⟨k, hk, rfl, hbest, hbw⟩ := hrel
    have hsz := hbw.size
    obtain ⟨best, hbe⟩ : ∃ best, best = bestTo l k := ⟨_, rfl⟩
    rw [← hbe] at hbest
    have hbd := bestTo_bd0 l k
    rw [← hbe] at hbd
    obtain ⟨hbd0, hbd1⟩ := hbd
    subst hbest
    have HBE := Lib.hid hbe
    clear hbe
    by_cases hlt : k < l.length
    · obtain ⟨b, off, rfl, hbl, hc, hc2⟩ := (ha.below hbw).path hlt
      have hpe : ∃ p, p = l[k]'hlt := ⟨_, rfl⟩
      obtain ⟨p, hp⟩ := hpe
      have HN := Lib.hid (bestTo_next HBE.out hlt hp)
      rw [← hp] at hc hc2
      clear hp
      obtain ⟨u, v⟩ := p
      simp only at hc hc2
      cases u
      · have HR := Lib.hid (HN.out false (better_up rfl))
        (go_wp2; go_quiet (fail); go_wp2)
        go_roundw
        case rel => exact ⟨k + 1, by omega, by go_num, by rw [HR.out]; rfl, (by repeat (first | with_reducible exact Below.refl _ _ | with_reducible assumption | with_reducible refine below_drewN ?_ _ | with_reducible refine Below.drew ?_ | with_reducible refine Below.alloc ?_ ?_ _ | with_reducible refine Below.setCell ?_ ?_ _ | (with_reducible refine Below.next ?_ (by assumption)) | omega | (focus (simp; omega)) | (focus (simp; done))))⟩
        case measure => simp [intOf]; omega
      · cases h1 : decide (v < 1000)
        · have HR := Lib.hid (HN.out false (better_load h1))
          (go_wp2; go_quiet (fail); go_wp2)
          go_roundw
          case rel => exact ⟨k + 1, by omega, by go_num, by rw [HR.out]; rfl, (by repeat (first | with_reducible exact Below.refl _ _ | with_reducible assumption | with_reducible refine below_drewN ?_ _ | with_reducible refine Below.drew ?_ | with_reducible refine Below.alloc ?_ ?_ _ | with_reducible refine Below.setCell ?_ ?_ _ | (with_reducible refine Below.next ?_ (by assumption)) | omega | (focus (simp; omega)) | (focus (simp; done))))⟩
          case measure => simp [intOf]; omega
        · by_cases hneg : best < 0
          · have HR := Lib.hid (HN.out true (better_first h1 hneg))
            have hneg' : decide (best < 0) = true := by simpa using hneg
            (go_wp2; go_quiet (fail); go_wp2)
            go_roundw
            case rel => exact ⟨k + 1, by omega, by go_num, by rw [HR.out]; rfl, (by repeat (first | with_reducible exact Below.refl _ _ | with_reducible assumption | with_reducible refine below_drewN ?_ _ | with_reducible refine Below.drew ?_ | with_reducible refine Below.alloc ?_ ?_ _ | with_reducible refine Below.setCell ?_ ?_ _ | (with_reducible refine Below.next ?_ (by assumption)) | omega | (focus (simp; omega)) | (focus (simp; done))))⟩
            case measure => simp [intOf]; omega
          · obtain ⟨b0, rfl⟩ := Int.eq_ofNat_of_zero_le (Int.not_lt.1 hneg)
            have hneg' : decide ((b0 : Int) < 0) = false := by simp
            have hb0 : b0 < l.length := by omega
            obtain ⟨b', off', hA', hbl', hd, hd2⟩ := (ha.below hbw).path hb0
            cases hA'
            obtain ⟨y, hy⟩ : ∃ y, y = (l[b0]'hb0).load := ⟨_, rfl⟩
            have HL := Lib.hid (better_less (v := v) h1 hb0 hy)
            rw [← hy] at hd2
            clear hneg hy
            cases h2 : decide (v < y)
            · have HR := Lib.hid (HN.out false (HL.out.trans h2))
              (go_wp2; go_quiet (fail); go_wp2)
              go_roundw
              case rel => exact ⟨k + 1, by omega, by go_num, by rw [HR.out]; rfl, (by repeat (first | with_reducible exact Below.refl _ _ | with_reducible assumption | with_reducible refine below_drewN ?_ _ | with_reducible refine Below.drew ?_ | with_reducible refine Below.alloc ?_ ?_ _ | with_reducible refine Below.setCell ?_ ?_ _ | (with_reducible refine Below.next ?_ (by assumption)) | omega | (focus (simp; omega)) | (focus (simp; done))))⟩
              case measure => simp [intOf]; omega
            · have HR := Lib.hid (HN.out true (HL.out.trans h2))
              (go_wp2; go_quiet (fail); go_wp2)
              go_roundw
              case rel => exact ⟨k + 1, by omega, by go_num, by rw [HR.out]; rfl, (by repeat (first | with_reducible exact Below.refl _ _ | with_reducible assumption | with_reducible refine below_drewN ?_ _ | with_reducible refine Below.drew ?_ | with_reducible refine Below.alloc ?_ ?_ _ | with_reducible refine Below.setCell ?_ ?_ _ | (with_reducible refine Below.next ?_ (by assumption)) | omega | (focus (simp; omega)) | (focus (simp; done))))⟩
              case measure => simp [intOf]; omega
    · have hke : k = l.length := by omega
      subst hke
      go_wp2
      go_ret
      exact ⟨ret_int HBE.out, hbw⟩
set_option maxHeartbeats 2000000 in
theorem specChooseY_any (A : Option Addr) (c : Nat) (l : List Pth) (w : World) (ha : Rd ePath w A l) (hl : l.length ≤ 1099511627776) (hv : pathsB l = true) :
    Calls Try.prog 17 #[.slice A l.length c] w fun e w' => e = .returned (.int .i64 (bestTo l l.length)) ∧ Below w.heap.size w w' := by
  have HV := Lib.hid hv
  clear hv
  go_enter Try.func17, Try.ntmps17
  go_wp2
  go_loopw [3, 4] (fun best i wr => ∃ k : Nat, k ≤ l.length ∧ i = .int .i64 k ∧ best = .int .i64 (bestTo l k) ∧ Below w.heap.size w wr) (fun _ i _ => l.length - (intOf i).toNat)
  case atStart => exact ⟨0, Nat.zero_le _, rfl, rfl, (by repeat (first | with_reducible exact Below.refl _ _ | with_reducible assumption | with_reducible refine below_drewN ?_ _ | with_reducible refine Below.drew ?_ | with_reducible refine Below.alloc ?_ ?_ _ | with_reducible refine Below.setCell ?_ ?_ _ | (with_reducible refine Below.next ?_ (by assumption)) | omega | (focus (simp; omega)) | (focus (simp; done))))⟩
  case round =>
    obtain ⟨k, hk, rfl, hbest, hbw⟩ := hrel
    have hsz := hbw.size
    obtain ⟨best, hbe⟩ : ∃ best, best = bestTo l k := ⟨_, rfl⟩
    rw [← hbe] at hbest
    have hbd := bestTo_bd0 l k
    rw [← hbe] at hbd
    obtain ⟨hbd0, hbd1⟩ := hbd
    subst hbest
    have HBE := Lib.hid hbe
    clear hbe
    by_cases hlt : k < l.length
    · obtain ⟨b, off, rfl, hbl, hc, hc2⟩ := (ha.below hbw).path hlt
      have hpe : ∃ p, p = l[k]'hlt := ⟨_, rfl⟩
      obtain ⟨p, hp⟩ := hpe
      have HN := Lib.hid (bestTo_next HBE.out hlt hp)
      rw [← hp] at hc hc2
      clear hp
      obtain ⟨u, v⟩ := p
      simp only at hc hc2
      cases u
      · have HR := Lib.hid (HN.out false (better_up rfl))
        (go_wp2_with fail; refine (specPaths_any _ c l _ (ha.below hbw) hl).mono ?_; rw [HV.out]; rintro e w1 ⟨rfl, rfl⟩; go_wp2; go_quiet (fail); go_wp2)
        go_roundw
        case rel => exact ⟨k + 1, by omega, by go_num, by rw [HR.out]; rfl, (by repeat (first | with_reducible exact Below.refl _ _ | with_reducible assumption | with_reducible refine below_drewN ?_ _ | with_reducible refine Below.drew ?_ | with_reducible refine Below.alloc ?_ ?_ _ | with_reducible refine Below.setCell ?_ ?_ _ | (with_reducible refine Below.next ?_ (by assumption)) | omega | (focus (simp; omega)) | (focus (simp; done))))⟩
        case measure => simp [intOf]; omega
      · cases h1 : decide (v < 1000)
        · have HR := Lib.hid (HN.out false (better_load h1))
          (go_wp2_with fail; refine (specPaths_any _ c l _ (ha.below hbw) hl).mono ?_; rw [HV.out]; rintro e w1 ⟨rfl, rfl⟩; go_wp2; go_quiet (fail); go_wp2)
          go_roundw
          case rel => exact ⟨k + 1, by omega, by go_num, by rw [HR.out]; rfl, (by repeat (first | with_reducible exact Below.refl _ _ | with_reducible assumption | with_reducible refine below_drewN ?_ _ | with_reducible refine Below.drew ?_ | with_reducible refine Below.alloc ?_ ?_ _ | with_reducible refine Below.setCell ?_ ?_ _ | (with_reducible refine Below.next ?_ (by assumption)) | omega | (focus (simp; omega)) | (focus (simp; done))))⟩
          case measure => simp [intOf]; omega
        · by_cases hneg : best < 0
          · have HR := Lib.hid (HN.out true (better_first h1 hneg))
            have hneg' : decide (best < 0) = true := by simpa using hneg
            (go_wp2_with fail; refine (specPaths_any _ c l _ (ha.below hbw) hl).mono ?_; rw [HV.out]; rintro e w1 ⟨rfl, rfl⟩; go_wp2; go_quiet (fail); go_wp2)
            go_roundw
            case rel => exact ⟨k + 1, by omega, by go_num, by rw [HR.out]; rfl, (by repeat (first | with_reducible exact Below.refl _ _ | with_reducible assumption | with_reducible refine below_drewN ?_ _ | with_reducible refine Below.drew ?_ | with_reducible refine Below.alloc ?_ ?_ _ | with_reducible refine Below.setCell ?_ ?_ _ | (with_reducible refine Below.next ?_ (by assumption)) | omega | (focus (simp; omega)) | (focus (simp; done))))⟩
            case measure => simp [intOf]; omega
          · obtain ⟨b0, rfl⟩ := Int.eq_ofNat_of_zero_le (Int.not_lt.1 hneg)
            have hneg' : decide ((b0 : Int) < 0) = false := by simp
            have hb0 : b0 < l.length := by omega
            obtain ⟨b', off', hA', hbl', hd, hd2⟩ := (ha.below hbw).path hb0
            cases hA'
            obtain ⟨y, hy⟩ : ∃ y, y = (l[b0]'hb0).load := ⟨_, rfl⟩
            have HL := Lib.hid (better_less (v := v) h1 hb0 hy)
            rw [← hy] at hd2
            clear hneg hy
            cases h2 : decide (v < y)
            · have HR := Lib.hid (HN.out false (HL.out.trans h2))
              (go_wp2_with fail; refine (specPaths_any _ c l _ (ha.below hbw) hl).mono ?_; rw [HV.out]; rintro e w1 ⟨rfl, rfl⟩; go_wp2; go_quiet (fail); go_wp2)
              go_roundw
              case rel => exact ⟨k + 1, by omega, by go_num, by rw [HR.out]; rfl, (by repeat (first | with_reducible exact Below.refl _ _ | with_reducible assumption | with_reducible refine below_drewN ?_ _ | with_reducible refine Below.drew ?_ | with_reducible refine Below.alloc ?_ ?_ _ | with_reducible refine Below.setCell ?_ ?_ _ | (with_reducible refine Below.next ?_ (by assumption)) | omega | (focus (simp; omega)) | (focus (simp; done))))⟩
              case measure => simp [intOf]; omega
            · have HR := Lib.hid (HN.out true (HL.out.trans h2))
              (go_wp2_with fail; refine (specPaths_any _ c l _ (ha.below hbw) hl).mono ?_; rw [HV.out]; rintro e w1 ⟨rfl, rfl⟩; go_wp2; go_quiet (fail); go_wp2)
              go_roundw
              case rel => exact ⟨k + 1, by omega, by go_num, by rw [HR.out]; rfl, (by repeat (first | with_reducible exact Below.refl _ _ | with_reducible assumption | with_reducible refine below_drewN ?_ _ | with_reducible refine Below.drew ?_ | with_reducible refine Below.alloc ?_ ?_ _ | with_reducible refine Below.setCell ?_ ?_ _ | (with_reducible refine Below.next ?_ (by assumption)) | omega | (focus (simp; omega)) | (focus (simp; done))))⟩
              case measure => simp [intOf]; omega
    · have hke : k = l.length := by omega
      subst hke
      go_wp2
      go_ret
      exact ⟨ret_int HBE.out, hbw⟩
set_option maxHeartbeats 2000000 in
theorem specChoose_any (A : Option Addr) (c : Nat) (l : List Pth) (w : World) (ha : Rd ePath w A l) (hl : l.length ≤ 1099511627776) :
    Calls Try.prog 17 #[.slice A l.length c] w fun e w' => e = .returned (.int .i64 (chooseB l)) ∧ Below w.heap.size w w' := by
  cases hv : pathsB l
  · have HV := Lib.hid hv
    have e1 : chooseB l = -1 := by simp [chooseB, hv]
    rw [e1]
    clear hv e1
    by_cases h0 : 0 < l.length
    · go_enter Try.func17, Try.ntmps17
      go_wp2
      refine wp_loop_rounds 1 ?_
      rw [rounds_succ]
      go_wp2_with fail
      refine (specPaths_any _ c l _ ha hl).mono ?_
      rw [HV.out]
      rintro e w1 ⟨rfl, rfl⟩
      go_wp2
      go_ret
      exact ⟨rfl, (by repeat (first | with_reducible exact Below.refl _ _ | with_reducible assumption | with_reducible refine below_drewN ?_ _ | with_reducible refine Below.drew ?_ | with_reducible refine Below.alloc ?_ ?_ _ | with_reducible refine Below.setCell ?_ ?_ _ | (with_reducible refine Below.next ?_ (by assumption)) | omega | (focus (simp; omega)) | (focus (simp; done))))⟩
    · go_enter Try.func17, Try.ntmps17
      go_wp2
      refine wp_loop_rounds 1 ?_
      rw [rounds_succ]
      go_wp2
      go_ret
      exact ⟨rfl, (by repeat (first | with_reducible exact Below.refl _ _ | with_reducible assumption | with_reducible refine below_drewN ?_ _ | with_reducible refine Below.drew ?_ | with_reducible refine Below.alloc ?_ ?_ _ | with_reducible refine Below.setCell ?_ ?_ _ | (with_reducible refine Below.next ?_ (by assumption)) | omega | (focus (simp; omega)) | (focus (simp; done))))⟩
  · have e1 : chooseB l = bestTo l l.length := by simp [chooseB, hv]
    rw [e1]
    exact specChooseY_any A c l w ha hl hv
set_option maxHeartbeats 2000000 in
theorem implChoose_any (A : Option Addr) (c : Nat) (l : List Pth) (w : World) (ha : Rd ePath w A l) (hl : l.length ≤ 1099511627776) :
    Calls Try.prog 18 #[.slice A l.length c] w fun e w' => e = .returned (.int .i64 (chooseB l)) ∧ Below w.heap.size w w' := by
  cases hv : pathsB l
  · have HV := Lib.hid hv
    have e1 : chooseB l = -1 := by simp [chooseB, hv]
    rw [e1]
    clear hv e1
    go_enter Try.func18, Try.ntmps18
    go_wp2_with fail
    refine (implPaths_any _ c l _ ha hl).mono ?_
    rw [HV.out]
    rintro e w1 ⟨rfl, hb1⟩
    go_wp2
    go_ret
    exact ⟨rfl, (by repeat (first | with_reducible exact Below.refl _ _ | with_reducible assumption | with_reducible refine below_drewN ?_ _ | with_reducible refine Below.drew ?_ | with_reducible refine Below.alloc ?_ ?_ _ | with_reducible refine Below.setCell ?_ ?_ _ | (with_reducible refine Below.next ?_ (by assumption)) | omega | (focus (simp; omega)) | (focus (simp; done))))⟩
  · have HV := Lib.hid hv
    have e1 : chooseB l = bestTo l l.length := by simp [chooseB, hv]
    rw [e1]
    clear hv e1
    go_enter Try.func18, Try.ntmps18
    go_wp2_with fail
    refine (implPaths_any _ c l _ ha hl).mono ?_
    rw [HV.out]
    rintro e w1 ⟨rfl, hb1⟩
    go_wp2_with fail
    refine (choosePath_any _ c l _ (ha.below hb1) hl).mono ?_
    rintro e w2 ⟨rfl, hb2⟩
    go_wp2
    go_ret
    exact ⟨rfl, (by repeat (first | with_reducible exact Below.refl _ _ | with_reducible assumption | with_reducible refine below_drewN ?_ _ | with_reducible refine Below.drew ?_ | with_reducible refine Below.alloc ?_ ?_ _ | with_reducible refine Below.setCell ?_ ?_ _ | (with_reducible refine Below.next ?_ (by assumption)) | omega | (focus (simp; omega)) | (focus (simp; done))))⟩
/-- A fresh slice of paths and a number come back. -/
def FreshN (e : TypeId) (s : List Pth × Int) (w : World) (en : Ending) (w' : World) : Prop :=
  ∃ A c g, en = .returned (.tuple #[.slice A s.1.length c, .int .i64 s.2]) ∧ w.heap.size ≤ g ∧ Row ePath w' g e A c s.1 ∧ Below w.heap.size w w' ∧ (A = none → c = 0)
theorem Row.nilc {α : Type} {E : Enc α} {w : World} {g : Nat} {e : TypeId} {A : Option Addr} {c : Nat} {l : List α} (h : Row E w g e A c l) : A = none → c = 0 := by
  intro hA
  rcases h with ⟨_, rfl, _⟩ | ⟨cur, hB, _⟩
  · rfl
  · rw [hA] at hB; cases hB
theorem sendTo_succ_pos {l : List Pth} {k b : Nat} (hb : bestTo (sendTo l k).1 (sendTo l k).1.length = b) (p : Pth) (hp : b < (sendTo l k).1.length) (hpe : p = (sendTo l k).1[b]) : sendTo l (k + 1) = ((sendTo l k).1.set b ⟨p.up, p.load + 1⟩, (sendTo l k).2) := by
  rw [sendTo, sendStep, hb, if_neg (by omega), hpe]
  simp [hp]
set_option maxHeartbeats 2000000 in
theorem sendOn_any (A : Option Addr) (c : Nat) (l : List Pth) (n : Nat) (w : World) (ha : Rd ePath w A l) (hv : pathsB l = true) (hn : n ≤ 1000) (hnil : A = none → c = 0) :
    Calls Try.prog 41 #[.slice A l.length c, .int .i64 n] w (FreshN 33 (sendTo l n) w) := by
  have hl6 := (pathsB_true.1 hv).1
  have HV := Lib.hid hv
  clear hv
  go_enter Try.func41, Try.ntmps41
  go_wp2_with fail
  refine (clonePath_any _ c l _ ha (by omega) hnil).mono ?_
  rintro e w1 ⟨A1, c1, g1, rfl, hg1, hrow1, hb1⟩
  have hz1 := hb1.size
  go_wp2
  go_loopw [1] (fun x wr => ∃ k j : Nat, k + j = n ∧ x = .int .i64 j ∧ (sendTo l k).2 = 0 ∧ Below w.heap.size w wr ∧ ∃ lk : List Pth, Hid (lk = (sendTo l k).1) ∧ (lk.length ≤ l.length ∧ l.length ≤ lk.length) ∧ Row ePath wr g1 33 A1 c1 lk) (fun x _ => (intOf x).toNat)
  case atStart => exact ⟨0, n, by omega, rfl, rfl, hb1, l, rfl, ⟨Nat.le_refl _, Nat.le_refl _⟩, hrow1⟩
  case round =>
    obtain ⟨k, j, hkj, rfl, h0, hbw, lk, hlk, ⟨hl1, hl2⟩, hrow⟩ := hrel
    have H0 := Lib.hid h0
    have hsz := hbw.size
    clear h0
    have HKJ := Lib.hid hkj
    have hjn : j ≤ n := by omega
    clear hkj
    by_cases hj : 0 < j
    · have hpv : Hid (pathsB lk = true) := by rw [hlk.out]; exact sendTo_ok HV.out k
      have hll : Hid (lk.length = l.length) := Lib.hid (by omega)
      rcases best_cases lk with ⟨h1, _⟩ | ⟨b, h1, hbl, hu, hl', _, _⟩
      · go_wp2_with fail
        refine (calls_len (rest := []) hll.out (choosePath_any A1 c1 lk _ hrow.rd (by omega))).mono ?_
        rw [h1]
        rintro e w2 ⟨rfl, hb2⟩
        go_wp2
        go_ret2
        have hst := sendTo_stuck l k (by rw [← hlk.out, h1]; omega) j
        rw [HKJ.out, H0.out] at hst
        refine ⟨A1, c1, g1, ?_, hg1, ?_, (by repeat (first | with_reducible exact Below.refl _ _ | with_reducible assumption | with_reducible refine below_drewN ?_ _ | with_reducible refine Below.drew ?_ | with_reducible refine Below.alloc ?_ ?_ _ | with_reducible refine Below.setCell ?_ ?_ _ | (with_reducible refine Below.next ?_ (by assumption)) | omega | (focus (simp; omega)) | (focus (simp; done)))), hrow.nilc⟩
        · rw [hst, ← hlk.out, hll.out]; simp
        · rw [hst, ← hlk.out]; exact hrow.below hb2
      · have h1' := Lib.hid h1
        go_wp2_with fail
        refine (calls_len (rest := []) hll.out (choosePath_any A1 c1 lk _ hrow.rd (by omega))).mono ?_
        rw [h1]
        rintro e w2 ⟨rfl, hb2⟩
        have hrow2 := hrow.below hb2
        have hz2 := hb2.size
        obtain ⟨rfl, hgl, hfz, hc2⟩ := hrow2.path (by omega)
        obtain ⟨hc3, hc4⟩ := hc2 b hbl
        have hvb := pathsB_get hpv.out hbl
        obtain ⟨p, hp⟩ : ∃ p, p = lk[b]'hbl := ⟨_, rfl⟩
        have HS := Lib.hid (hrow2.setLoad (k := b) hbl (p.load + 1))
        have HT : Hid (sendTo l (k + 1) = (lk.set b ⟨p.up, p.load + 1⟩, 0)) := by
          have := sendTo_succ_pos (l := l) (k := k) (b := b) (by rw [← hlk.out]; exact h1'.out) p (by rw [← hlk.out]; exact hbl) (by rw [hp]; simp only [hlk.out])
          rw [H0.out, ← hlk.out] at this
          exact this
        rw [← hp] at hc3 hc4 hvb hl' HS
        obtain ⟨hv0, hv1⟩ := hvb.1
        clear hc2 hp h1 hvb
        go_wp2
        go_roundw
        case rel =>
          refine ⟨k + 1, j - 1, by have := HKJ.out; omega, by go_num, by rw [HT.out], ?_, _, by rw [HT.out]; exact rfl, ⟨by simpa using hl1, by simpa using hl2⟩, HS.out⟩
          exact Below.setCell (Below.next hbw hb2) hg1 _
        case measure => simp [intOf]; omega
    · have hj0 : j = 0 := by omega
      have hkn : k = n := by have := HKJ.out; omega
      have hll : Hid (l.length = lk.length) := Lib.hid (by omega)
      subst hj0
      go_wp2
      go_ret2
      refine ⟨A1, c1, g1, ?_, hg1, ?_, hbw, hrow.nilc⟩
      · rw [← hkn, H0.out, ← hlk.out, hll.out]; rfl
      · rw [← hkn, ← hlk.out]; exact hrow
set_option maxHeartbeats 2000000 in
theorem implSend_any (A : Option Addr) (c : Nat) (l : List Pth) (n : Int) (w : World) (ha : Rd ePath w A l) (hl : l.length ≤ 1099511627776) (hnil : A = none → c = 0) :
    Calls Try.prog 23 #[.slice A l.length c, .int .i64 n] w (FreshN 33 (sendB l n) w) := by
  cases hv : pathsB l
  · have HV := Lib.hid hv
    have e1 : sendB l n = ([], 0) := by simp [sendB, hv]
    rw [e1]
    clear hv e1
    go_enter Try.func23, Try.ntmps23
    go_wp2_with fail
    refine (implPaths_any _ c l _ ha hl).mono ?_
    rw [HV.out]
    rintro e w1 ⟨rfl, hb1⟩
    go_wp2
    go_ret2
    exact ⟨none, 0, w.heap.size, rfl, Nat.le_refl _, Row.nil _ _ _, (by repeat (first | with_reducible exact Below.refl _ _ | with_reducible assumption | with_reducible refine below_drewN ?_ _ | with_reducible refine Below.drew ?_ | with_reducible refine Below.alloc ?_ ?_ _ | with_reducible refine Below.setCell ?_ ?_ _ | (with_reducible refine Below.next ?_ (by assumption)) | omega | (focus (simp; omega)) | (focus (simp; done)))), fun _ => rfl⟩
  · have HV := Lib.hid hv
    cases hi : inB n 0 500
    · have e1 : sendB l n = ([], 0) := by simp [sendB, hi]
      rw [e1]
      clear hv e1
      go_enter Try.func23, Try.ntmps23
      go_wp2_with fail
      refine (implPaths_any _ c l _ ha hl).mono ?_
      rw [HV.out]
      rintro e w1 ⟨rfl, hb1⟩
      go_wp2_with (go_at_call 35; refine (within_any _ _ _ _).mono ?_; rintro e w' ⟨rfl, rfl⟩)
      go_ret2
      exact ⟨none, 0, w.heap.size, rfl, Nat.le_refl _, Row.nil _ _ _, (by repeat (first | with_reducible exact Below.refl _ _ | with_reducible assumption | with_reducible refine below_drewN ?_ _ | with_reducible refine Below.drew ?_ | with_reducible refine Below.alloc ?_ ?_ _ | with_reducible refine Below.setCell ?_ ?_ _ | (with_reducible refine Below.next ?_ (by assumption)) | omega | (focus (simp; omega)) | (focus (simp; done)))), fun _ => rfl⟩
    · obtain ⟨n0, n1⟩ := inB_true.1 hi
      have e1 : sendB l n = sendTo l n.toNat := by simp [sendB, hv, hi]
      rw [e1]
      obtain ⟨m, rfl⟩ := Int.eq_ofNat_of_zero_le n0
      rw [Int.toNat_natCast]
      clear hv e1
      go_enter Try.func23, Try.ntmps23
      go_wp2_with fail
      refine (implPaths_any _ c l _ ha hl).mono ?_
      rw [HV.out]
      rintro e w1 ⟨rfl, hb1⟩
      have hz1 := hb1.size
      go_wp2_with (go_at_call 35; refine (within_any _ _ _ _).mono ?_; rintro e w' ⟨rfl, rfl⟩)
      refine (sendOn_any _ c l m _ (ha.below hb1) HV.out (by omega) hnil).mono ?_
      rintro e w2 ⟨A2, c2, g2, rfl, hg2, hrow2, hb2, hn2⟩
      go_wp2
      go_ret2
      exact ⟨A2, c2, g2, rfl, by omega, hrow2, (by repeat (first | with_reducible exact Below.refl _ _ | with_reducible assumption | with_reducible refine below_drewN ?_ _ | with_reducible refine Below.drew ?_ | with_reducible refine Below.alloc ?_ ?_ _ | with_reducible refine Below.setCell ?_ ?_ _ | (with_reducible refine Below.next ?_ (by assumption)) | omega | (focus (simp; omega)) | (focus (simp; done)))), hn2⟩
set_option maxHeartbeats 2000000 in
theorem specSend_any (A : Option Addr) (c : Nat) (l : List Pth) (n : Int) (w : World) (ha : Rd ePath w A l) (hl : l.length ≤ 1099511627776) :
    Calls Try.prog 22 #[.slice A l.length c, .int .i64 n] w (FreshN 33 (sendB l n) w) := by
  cases hv : pathsB l
  · have HV := Lib.hid hv
    have e1 : sendB l n = ([], 0) := by simp [sendB, hv]
    rw [e1]
    clear hv e1
    have HR := Lib.hid (Row.made (E := ePath) w 33 #[] [] 0 rfl (Nat.le_refl _) (by decide) rfl)
    go_enter Try.func22, Try.ntmps22
    go_wp2_with fail
    refine (specPaths_any _ c l _ ha hl).mono ?_
    rw [HV.out]
    rintro e w1 ⟨rfl, rfl⟩
    go_wp2
    go_ret2
    exact ⟨_, 0, w.heap.size, rfl, Nat.le_refl _, HR.out, (by repeat (first | with_reducible exact Below.refl _ _ | with_reducible assumption | with_reducible refine below_drewN ?_ _ | with_reducible refine Below.drew ?_ | with_reducible refine Below.alloc ?_ ?_ _ | with_reducible refine Below.setCell ?_ ?_ _ | (with_reducible refine Below.next ?_ (by assumption)) | omega | (focus (simp; omega)) | (focus (simp; done)))), fun h => by cases h⟩
  · have HV := Lib.hid hv
    cases hi : inB n 0 500
    · have e1 : sendB l n = ([], 0) := by simp [sendB, hi]
      rw [e1]
      clear hv e1
      have HR := Lib.hid (Row.made (E := ePath) w 33 #[] [] 0 rfl (Nat.le_refl _) (by decide) rfl)
      go_enter Try.func22, Try.ntmps22
      go_wp2_with fail
      refine (specPaths_any _ c l _ ha hl).mono ?_
      rw [HV.out]
      rintro e w1 ⟨rfl, rfl⟩
      go_wp2_with (go_at_call 31; refine (l1In_any _ _ _ _).mono ?_; rintro e w' ⟨rfl, rfl⟩)
      go_ret2
      exact ⟨_, 0, w.heap.size, rfl, Nat.le_refl _, HR.out, (by repeat (first | with_reducible exact Below.refl _ _ | with_reducible assumption | with_reducible refine below_drewN ?_ _ | with_reducible refine Below.drew ?_ | with_reducible refine Below.alloc ?_ ?_ _ | with_reducible refine Below.setCell ?_ ?_ _ | (with_reducible refine Below.next ?_ (by assumption)) | omega | (focus (simp; omega)) | (focus (simp; done)))), fun h => by cases h⟩
    · obtain ⟨n0, n1⟩ := inB_true.1 hi
      have e1 : sendB l n = sendTo l n.toNat := by simp [sendB, hv, hi]
      rw [e1]
      obtain ⟨m, rfl⟩ := Int.eq_ofNat_of_zero_le n0
      rw [Int.toNat_natCast]
      clear hv e1
      have HR := Lib.hid (Row.made (E := ePath) w 33 #[] [] 0 rfl (Nat.le_refl _) (by decide) rfl)
      have HA := Lib.hid (ha.alloc (.cells #[] 33))
      go_enter Try.func22, Try.ntmps22
      go_wp2_with fail
      refine (specPaths_any _ c l _ ha hl).mono ?_
      rw [HV.out]
      rintro e w1 ⟨rfl, rfl⟩
      go_wp2_with (first
        | (go_at_call 31; refine (l1In_any _ _ _ _).mono ?_; rintro e w' ⟨rfl, rfl⟩)
        | (at_builtin; refine wpList_append_row rfl _ _ rfl el_path rfl HR.out _ _ l rfl HA.out (by simp only [maxLen, List.length_nil]; omega) (by simp only [List.length_nil]; omega) ?_; intro A1 c1 g1 w1 l1 hl1 hle1 hle2 hrow1 hgr1 hgg1))
      have e1 := hl1.out
      simp only [List.nil_append] at e1
      subst e1
      have hg1 : w.heap.size ≤ g1 := by simp at hgg1; omega
      have hb1 : Below w.heap.size w w1 := Below.grown1 ((by repeat (first | with_reducible exact Below.refl _ _ | with_reducible assumption | with_reducible refine below_drewN ?_ _ | with_reducible refine Below.drew ?_ | with_reducible refine Below.alloc ?_ ?_ _ | with_reducible refine Below.setCell ?_ ?_ _ | (with_reducible refine Below.next ?_ (by assumption)) | omega | (focus (simp; omega)) | (focus (simp; done))))) hgr1 (by simp) (by simp)
      have hz1 := hb1.size
      have hl6 := (pathsB_true.1 HV.out).1
      clear hle1 hle2 hgg1 hgr1
      go_loopw [7, 8] (fun x i wr => ∃ k : Nat, k ≤ m ∧ i = .int .i64 k ∧ x = .int .i64 (sendTo l1 k).2 ∧ Below w.heap.size w wr ∧ ∃ lk : List Pth, Hid (lk = (sendTo l1 k).1) ∧ (lk.length ≤ l1.length ∧ l1.length ≤ lk.length) ∧ Row ePath wr g1 33 A1 c1 lk) (fun _ i _ => m - (intOf i).toNat)
      case atStart => exact ⟨0, by omega, rfl, rfl, hb1, l1, rfl, ⟨Nat.le_refl _, Nat.le_refl _⟩, hrow1⟩
      case round =>
        obtain ⟨k, hk, rfl, rfl, hbw, lk, hlk, ⟨hl1, hl2⟩, hrow⟩ := hrel
        have hlost := sendTo_lost l1 k
        obtain ⟨x, hx⟩ : ∃ x, x = (sendTo l1 k).2 := ⟨_, rfl⟩
        rw [← hx] at hlost ⊢
        obtain ⟨hlost0, hlost1⟩ := hlost
        have HX := Lib.hid hx
        clear hx
        have hsz := hbw.size
        by_cases hj : k < m
        · have hpv : Hid (pathsB lk = true) := by rw [hlk.out]; exact sendTo_ok HV.out k
          have hll : Hid (lk.length = l1.length) := Lib.hid (by omega)
          rcases sendStep_cases lk x with ⟨h1, hstep⟩ | ⟨b, hbl, h1, hu, hl', _, hstep⟩
          · have HT : Hid (sendTo l1 (k + 1) = (lk, x + 1)) := by
              show sendTo l1 (k + 1) = _
              rw [sendTo, ← hstep, hlk.out, HX.out]
            clear hstep
            go_wp2_with fail
            refine (calls_len (rest := []) hll.out (specChooseY_any A1 c1 lk _ hrow.rd (by omega) hpv.out)).mono ?_
            rw [h1]
            rintro e w2 ⟨rfl, hb2⟩
            clear h1
            go_wp2
            go_roundw
            case rel => exact ⟨k + 1, by omega, by go_num, by rw [HT.out], (by repeat (first | with_reducible exact Below.refl _ _ | with_reducible assumption | with_reducible refine below_drewN ?_ _ | with_reducible refine Below.drew ?_ | with_reducible refine Below.alloc ?_ ?_ _ | with_reducible refine Below.setCell ?_ ?_ _ | (with_reducible refine Below.next ?_ (by assumption)) | omega | (focus (simp; omega)) | (focus (simp; done)))), lk, by rw [HT.out]; exact rfl, ⟨hl1, hl2⟩, hrow.below hb2⟩
            case measure => simp [intOf]; omega
          · have HT0 : Hid (sendTo l1 (k + 1) = (lk.set b ⟨true, lk[b].load + 1⟩, x)) := by
              show sendTo l1 (k + 1) = _
              rw [sendTo, ← hstep, hlk.out, HX.out]
            clear hstep
            go_wp2_with fail
            refine (calls_len (rest := []) hll.out (specChooseY_any A1 c1 lk _ hrow.rd (by omega) hpv.out)).mono ?_
            rw [h1]
            rintro e w2 ⟨rfl, hb2⟩
            have hrow2 := hrow.below hb2
            have hz2 := hb2.size
            obtain ⟨rfl, hgl, hfz, hc2⟩ := hrow2.path (by omega)
            obtain ⟨hc3, hc4⟩ := hc2 b hbl
            have hvb := pathsB_get hpv.out hbl
            obtain ⟨p, hp⟩ : ∃ p, p = lk[b]'hbl := ⟨_, rfl⟩
            have HS := Lib.hid (hrow2.setLoad (k := b) hbl (p.load + 1))
            rw [← hp] at hc3 hc4 hvb hl' HS HT0 hu
            have HU := Lib.hid hu
            obtain ⟨hv0, hv1⟩ := hvb.1
            clear hc2 hp h1 hvb hu
            go_wp2
            go_roundw
            case rel =>
              have hs := HS.out
              rw [HU.out] at hs
              refine ⟨k + 1, by omega, by go_num, by rw [HT0.out], ?_, _, by rw [HT0.out]; exact rfl, ⟨by simpa using hl1, by simpa using hl2⟩, hs⟩
              exact Below.setCell (Below.next hbw hb2) hg1 _
            case measure => simp [intOf]; omega
        · have hkn : k = m := by omega
          have hll : Hid (lk.length = l1.length) := Lib.hid (by omega)
          subst hkn
          go_wp2
          go_ret2
          refine ⟨A1, c1, g1, ?_, hg1, ?_, hbw, hrow.nilc⟩
          · rw [← hlk.out, hll.out, HX.out]; simp
          · rw [← hlk.out]; exact hrow
theorem ret_si {A : Option Addr} {n c : Nat} {a b : Int} (h : a = b) : Ending.returned (.tuple #[.slice A n c, .int .i64 a]) = .returned (.tuple #[.slice A n c, .int .i64 b]) := by rw [h]
theorem pathsB_fail {l : List Pth} (h : pathsB l = true) (n : Nat) : pathsB (l.set n ⟨false, 0⟩) = true := pathsB_set h _ _ (pathOk_true.2 ⟨by simp, .inr rfl⟩)
set_option maxHeartbeats 2000000 in
theorem implFail_any (A : Option Addr) (c : Nat) (l : List Pth) (n : Int) (w : World) (ha : Rd ePath w A l) (hl : l.length ≤ 1099511627776) (hnil : A = none → c = 0) :
    Calls Try.prog 27 #[.slice A l.length c, .int .i64 n] w (FreshN 33 (failB l n) w) := by
  cases hv : pathsB l
  · have HV := Lib.hid hv
    have e1 : failB l n = ([], 0) := by simp [failB, hv]
    rw [e1]
    clear hv e1
    have HR := Lib.hid (Row.made (E := ePath) w 33 #[] [] 0 rfl (Nat.le_refl _) (by decide) rfl)
    go_enter Try.func27, Try.ntmps27
    go_wp2_with fail
    refine (implPaths_any _ c l _ ha hl).mono ?_
    rw [HV.out]
    rintro e w1 ⟨rfl, hb1⟩
    go_wp2
    go_ret2
    exact ⟨none, 0, w.heap.size, rfl, Nat.le_refl _, Row.nil _ _ _, (by repeat (first | with_reducible exact Below.refl _ _ | with_reducible assumption | with_reducible refine below_drewN ?_ _ | with_reducible refine Below.drew ?_ | with_reducible refine Below.alloc ?_ ?_ _ | with_reducible refine Below.setCell ?_ ?_ _ | (with_reducible refine Below.next ?_ (by assumption)) | omega | (focus (simp; omega)) | (focus (simp; done)))), fun _ => rfl⟩
  · have HV := Lib.hid hv
    cases hi : inB n 0 (l.length - 1)
    · have HI := Lib.hid hi
      have e1 : failB l n = ([], 0) := by simp [failB, hi]
      rw [e1]
      clear hv e1
      have HR := Lib.hid (Row.made (E := ePath) w 33 #[] [] 0 rfl (Nat.le_refl _) (by decide) rfl)
      go_enter Try.func27, Try.ntmps27
      go_wp2_with fail
      refine (implPaths_any _ c l _ ha hl).mono ?_
      rw [HV.out]
      rintro e w1 ⟨rfl, hb1⟩
      go_wp2_with (go_at_call 35; refine (within_any _ _ _ _).mono ?_; rintro e w' ⟨rfl, rfl⟩)
      go_ret2
      exact ⟨none, 0, w.heap.size, rfl, Nat.le_refl _, Row.nil _ _ _, (by repeat (first | with_reducible exact Below.refl _ _ | with_reducible assumption | with_reducible refine below_drewN ?_ _ | with_reducible refine Below.drew ?_ | with_reducible refine Below.alloc ?_ ?_ _ | with_reducible refine Below.setCell ?_ ?_ _ | (with_reducible refine Below.next ?_ (by assumption)) | omega | (focus (simp; omega)) | (focus (simp; done)))), fun _ => rfl⟩
    · obtain ⟨n0, n1⟩ := inB_true.1 hi
      obtain ⟨m, rfl⟩ := Int.eq_ofNat_of_zero_le n0
      have hm : m < l.length := by omega
      obtain ⟨⟨p0, p1⟩, _⟩ := pathsB_get hv hm
      obtain ⟨p, hp⟩ : ∃ p, p = l[m]'hm := ⟨_, rfl⟩
      have e1 : failB l (m : Int) = ((sendTo (l.set m ⟨false, 0⟩) (min p.load 500).toNat).1, (sendTo (l.set m ⟨false, 0⟩) (min p.load 500).toNat).2 + max 0 (p.load - 500)) := by
        simp [failB, hv, hi, hp, hm]
      rw [e1]
      have hl6 := (pathsB_true.1 hv).1
      have hlost := sendTo_lost (l.set m ⟨false, 0⟩) (min p.load 500).toNat
      rw [← hp] at p0 p1
      obtain ⟨q, hq, hq0⟩ : ∃ q : Nat, (q : Int) = min p.load 500 ∧ (min p.load 500).toNat = q := ⟨(min p.load 500).toNat, by omega, rfl⟩
      rw [hq0] at hlost ⊢
      clear hq0
      have hvf := Lib.hid (pathsB_fail hv m)
      have HP := Lib.hid hp
      obtain ⟨s, hs⟩ : ∃ s, s = sendTo (l.set m ⟨false, 0⟩) q := ⟨_, rfl⟩
      have HS := Lib.hid hs
      rw [← hs] at hlost ⊢
      obtain ⟨s0, s1⟩ := hlost
      clear hv e1 hs hp
      have hq500 : q ≤ 500 := by omega
      rcases Int.lt_or_le 500 p.load with hb | hb
      all_goals
        first | (have hqe : (q : Int) = 500 := by omega) | (have hqe : p.load = (q : Int) := by omega)
        have HQ := Lib.hid hqe
        have hmx : ∃ y : Int, y = max 0 (p.load - 500) := ⟨_, rfl⟩
        obtain ⟨y, hy⟩ := hmx
        rw [← hy]
        have y0 : 0 ≤ y := by omega
        have y1 : y ≤ 1000 := by omega
        have HY := Lib.hid hy
        clear hq hqe hy
        go_enter Try.func27, Try.ntmps27
        go_wp2_with fail
        refine (implPaths_any _ c l _ ha hl).mono ?_
        rw [HV.out]
        rintro e w1 ⟨rfl, hb1⟩
        have hz1 := hb1.size
        go_wp2_with (go_at_call 35; refine (within_any _ _ _ _).mono ?_; rintro e w' ⟨rfl, rfl⟩)
        refine (clonePath_any _ c l _ (ha.below hb1) hl hnil).mono ?_
        rintro e w2 ⟨A2, c2, g2, rfl, hg2, hrow2, hb2⟩
        have hz2 := hb2.size
        obtain ⟨rfl, hgl, hfz, hc2⟩ := hrow2.path (by omega)
        obtain ⟨hc3, hc4⟩ := hc2 m hm
        rw [← HP.out] at hc3 hc4
        have HR2 := Lib.hid (hrow2.setPath (k := m) hm ⟨false, 0⟩)
        clear hc2
        go_wp2_with fail
        refine (calls_eq (sendOn_any _ c2 (l.set m ⟨false, 0⟩) q _ HR2.out.rd hvf.out (by omega) (fun h => by cases h)) (by simp [HQ.out])).mono ?_
        rw [← HS.out]
        rintro e w3 ⟨A3, c3, g3, rfl, hg3, hrow3, hb3, hn3⟩
        have hz3 := hb3.size
        simp at hg3 hz3
        go_wp2
        go_ret2
        refine ⟨A3, c3, g3, ret_si (by have := HY.out; omega), by omega, hrow3, (by repeat (first | with_reducible exact Below.refl _ _ | with_reducible assumption | with_reducible refine below_drewN ?_ _ | with_reducible refine Below.drew ?_ | with_reducible refine Below.alloc ?_ ?_ _ | with_reducible refine Below.setCell ?_ ?_ _ | (with_reducible refine Below.next ?_ (by assumption)) | omega | (focus (simp; omega)) | (focus (simp; done)))), hn3⟩
set_option maxHeartbeats 2000000 in
theorem specFail_any (A : Option Addr) (c : Nat) (l : List Pth) (n : Int) (w : World) (ha : Rd ePath w A l) (hl : l.length ≤ 1099511627776) :
    Calls Try.prog 26 #[.slice A l.length c, .int .i64 n] w (FreshN 33 (failB l n) w) := by
  cases hv : pathsB l
  · have HV := Lib.hid hv
    have e1 : failB l n = ([], 0) := by simp [failB, hv]
    rw [e1]
    clear hv e1
    have HR := Lib.hid (Row.made (E := ePath) w 33 #[] [] 0 rfl (Nat.le_refl _) (by decide) rfl)
    go_enter Try.func26, Try.ntmps26
    go_wp2_with fail
    refine (specPaths_any _ c l _ ha hl).mono ?_
    rw [HV.out]
    rintro e w1 ⟨rfl, rfl⟩
    go_wp2
    go_ret2
    exact ⟨_, 0, w.heap.size, rfl, Nat.le_refl _, HR.out, (by repeat (first | with_reducible exact Below.refl _ _ | with_reducible assumption | with_reducible refine below_drewN ?_ _ | with_reducible refine Below.drew ?_ | with_reducible refine Below.alloc ?_ ?_ _ | with_reducible refine Below.setCell ?_ ?_ _ | (with_reducible refine Below.next ?_ (by assumption)) | omega | (focus (simp; omega)) | (focus (simp; done)))), fun h => by cases h⟩
  · have HV := Lib.hid hv
    cases hi : inB n 0 (l.length - 1)
    · have HI := Lib.hid hi
      have e1 : failB l n = ([], 0) := by simp [failB, hi]
      rw [e1]
      clear hv e1
      have HR := Lib.hid (Row.made (E := ePath) w 33 #[] [] 0 rfl (Nat.le_refl _) (by decide) rfl)
      go_enter Try.func26, Try.ntmps26
      go_wp2_with fail
      refine (specPaths_any _ c l _ ha hl).mono ?_
      rw [HV.out]
      rintro e w1 ⟨rfl, rfl⟩
      go_wp2_with (go_at_call 31; refine (l1In_any _ _ _ _).mono ?_; rintro e w' ⟨rfl, rfl⟩)
      go_ret2
      exact ⟨_, 0, w.heap.size, rfl, Nat.le_refl _, HR.out, (by repeat (first | with_reducible exact Below.refl _ _ | with_reducible assumption | with_reducible refine below_drewN ?_ _ | with_reducible refine Below.drew ?_ | with_reducible refine Below.alloc ?_ ?_ _ | with_reducible refine Below.setCell ?_ ?_ _ | (with_reducible refine Below.next ?_ (by assumption)) | omega | (focus (simp; omega)) | (focus (simp; done)))), fun h => by cases h⟩
    · obtain ⟨n0, n1⟩ := inB_true.1 hi
      obtain ⟨m, rfl⟩ := Int.eq_ofNat_of_zero_le n0
      have hm : m < l.length := by omega
      obtain ⟨⟨p0, p1⟩, _⟩ := pathsB_get hv hm
      obtain ⟨p, hp⟩ : ∃ p, p = l[m]'hm := ⟨_, rfl⟩
      have e1 : failB l (m : Int) = ((sendTo (l.set m ⟨false, 0⟩) (min p.load 500).toNat).1, (sendTo (l.set m ⟨false, 0⟩) (min p.load 500).toNat).2 + max 0 (p.load - 500)) := by
        simp [failB, hv, hi, hp, hm]
      rw [e1]
      have hl6 := (pathsB_true.1 hv).1
      have hlost := sendTo_lost (l.set m ⟨false, 0⟩) (min p.load 500).toNat
      rw [← hp] at p0 p1
      obtain ⟨q, hq, hq0⟩ : ∃ q : Nat, (q : Int) = min p.load 500 ∧ (min p.load 500).toNat = q := ⟨(min p.load 500).toNat, by omega, rfl⟩
      rw [hq0] at hlost ⊢
      clear hq0
      have hvf := Lib.hid (pathsB_fail hv m)
      have HP := Lib.hid hp
      obtain ⟨s, hs⟩ : ∃ s, s = sendTo (l.set m ⟨false, 0⟩) q := ⟨_, rfl⟩
      have HS := Lib.hid hs
      rw [← hs] at hlost ⊢
      obtain ⟨s0, s1⟩ := hlost
      clear hv e1 hs hp
      have hq500 : q ≤ 500 := by omega
      rcases Int.lt_or_le 500 p.load with hb | hb
      all_goals
        first | (have hqe : (q : Int) = 500 := by omega) | (have hqe : p.load = (q : Int) := by omega)
        have HQ := Lib.hid hqe
        have hmx : ∃ y : Int, y = max 0 (p.load - 500) := ⟨_, rfl⟩
        obtain ⟨y, hy⟩ := hmx
        rw [← hy]
        have y0 : 0 ≤ y := by omega
        have y1 : y ≤ 1000 := by omega
        have HY := Lib.hid hy
        clear hq hqe hy
        have HR := Lib.hid (Row.made (E := ePath) w 33 #[] [] 0 rfl (Nat.le_refl _) (by decide) rfl)
        have HA := Lib.hid (ha.alloc (.cells #[] 33))
        go_enter Try.func26, Try.ntmps26
        go_wp2_with fail
        refine (specPaths_any _ c l _ ha hl).mono ?_
        rw [HV.out]
        rintro e w1 ⟨rfl, rfl⟩
        go_wp2_with (first
          | (go_at_call 31; refine (l1In_any _ _ _ _).mono ?_; rintro e w' ⟨rfl, rfl⟩)
          | (at_builtin; refine wpList_append_row rfl _ _ rfl el_path rfl HR.out _ _ l rfl HA.out (by simp only [maxLen, List.length_nil]; omega) (by simp only [List.length_nil]; omega) ?_; intro A2 c2 g2 w2 l1 hl1 hle1 hle2 hrow2 hgr1 hgg1))
        have e1 := hl1.out
        simp only [List.nil_append] at e1
        subst e1
        have hg2 : w.heap.size ≤ g2 := by simp at hgg1; omega
        have hb2 : Below w.heap.size w w2 := Below.grown1 ((by repeat (first | with_reducible exact Below.refl _ _ | with_reducible assumption | with_reducible refine below_drewN ?_ _ | with_reducible refine Below.drew ?_ | with_reducible refine Below.alloc ?_ ?_ _ | with_reducible refine Below.setCell ?_ ?_ _ | (with_reducible refine Below.next ?_ (by assumption)) | omega | (focus (simp; omega)) | (focus (simp; done))))) hgr1 (by simp) (by simp)
        have hz2 := hb2.size
        clear hle1 hle2 hgg1 hgr1
        obtain ⟨rfl, hgl, hfz, hc2⟩ := hrow2.path (by omega)
        obtain ⟨hc3, hc4⟩ := hc2 m hm
        rw [← HP.out] at hc3 hc4
        have HR2 := Lib.hid (hrow2.setPath (k := m) hm ⟨false, 0⟩)
        clear hc2
        go_wp2_with fail
        refine (calls_eq (specSend_any _ c2 (l1.set m ⟨false, 0⟩) q _ HR2.out.rd (by simp; omega)) (by simp [HQ.out])).mono ?_
        rw [show sendB (l1.set m ⟨false, 0⟩) (q : Int) = s by rw [HS.out, sendB, hvf.out, inB_true.2 (by omega)]; rfl]
        rintro e w3 ⟨A3, c3, g3, rfl, hg3, hrow3, hb3, hn3⟩
        have hz3 := hb3.size
        simp at hg3 hz3
        go_wp2
        go_ret2
        refine ⟨A3, c3, g3, ret_si (by have := HY.out; omega), by omega, hrow3, (by repeat (first | with_reducible exact Below.refl _ _ | with_reducible assumption | with_reducible refine below_drewN ?_ _ | with_reducible refine Below.drew ?_ | with_reducible refine Below.alloc ?_ ?_ _ | with_reducible refine Below.setCell ?_ ?_ _ | (with_reducible refine Below.next ?_ (by assumption)) | omega | (focus (simp; omega)) | (focus (simp; done)))), hn3⟩
end Go.Proofs.Ytplmfcbikcjccaa
