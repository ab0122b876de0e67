/-
  Stacks: valid partitions, caches, stacks. Conditions: lengths at most 2^40.
-/
import Derived.Test.YtlhbjfjphckifaaBase
import Derived.Test.YtlhbjfjphckifaaNum
import Derived.Test.YtlhbjfjphckifaaInts
import Derived.Test.YtlhbjfjphckifaaApp
import Derived.Test.YtlhbjfjphckifaaIntsW
import Derived.Test.YtlhbjfjphckifaaLib
import Derived.Test.YtlhbjfjphckifaaSpares
import Derived.Test.YtlhbjfjphckifaaOwn
import Derived.Test.YtlhbjfjphckifaaPart
import Derived.Test.YtlhbjfjphckifaaLine
import Derived.Test.YtlhbjfjphckifaaStack
import Derived.Test.YtlhbjfjphckifaaStackM
import Derived.IntWalk
namespace Go.Proofs.Ytlhbjfjphckifaa
open Go.RowKit
set_option maxHeartbeats 2000000 in
theorem implParts_c (A : Option Addr) (c : Nat) (l : List Pt) (n : Int) (w : World) (ha : Rd encPartS w A l) (hl : l.length ≤ 1099511627776) (hn : -9223372036854775808 ≤ n ∧ n ≤ 9223372036854775807) :
    Calls Try.prog 76 #[.slice A l.length c, .int .i64 n] w fun e w' => e = .returned (.bool (partsB l n)) ∧ Below w.heap.size w w' := by
  by_cases h1 : l.length ≤ 8
  · have h1' : decide ((8 : Int) < l.length) = false := by simp; omega
    cases h2 : inB n 0 100000
    · have H2 := Lib.hid h2
      go_enter Try.func76, Try.ntmps76
      go_wp2_with (go_at_call 69; refine (within_any _ _ _ _).mono ?_; rw [H2.out]; rintro e w' ⟨rfl, rfl⟩)
      go_ret
      exact ⟨ret_bool (parts_no2 H2.out).symm, (by repeat (first | with_reducible exact Below.refl _ _ | with_reducible assumption | with_reducible refine below_drewN ?_ _ | with_reducible refine Below.drew ?_ | with_reducible refine Below.alloc ?_ ?_ _ | with_reducible refine Below.setCell ?_ ?_ _ | (with_reducible refine Below.next ?_ (by assumption)) | omega | (focus (simp; omega)) | (focus (simp; done))))⟩
    · obtain ⟨n0, n1⟩ := inB_true.1 h2
      have H2 := Lib.hid h2
      clear h2
      go_enter Try.func76, Try.ntmps76
      go_wp2_with (go_at_call 69; refine (within_any _ _ _ _).mono ?_; rw [H2.out]; rintro e w' ⟨rfl, rfl⟩)
      go_loopw [5, 18] (fun ev i wr => ∃ k : Nat, k ≤ l.length ∧ i = .int .i64 k ∧ ∃ z : Int, ev = .int .i64 z ∧ (0 ≤ z ∧ z ≤ n) ∧ Hid (partsGo l 0 n = partsGo (l.drop k) z n) ∧ Below w.heap.size w wr) (fun _ i _ => l.length - (intOf i).toNat)
      case atStart => exact ⟨0, Nat.zero_le _, rfl, 0, rfl, ⟨by omega, n0⟩, Lib.hid (by simp), (by repeat (first | with_reducible exact Below.refl _ _ | with_reducible assumption | with_reducible refine below_drewN ?_ _ | with_reducible refine Below.drew ?_ | with_reducible refine Below.alloc ?_ ?_ _ | with_reducible refine Below.setCell ?_ ?_ _ | (with_reducible refine Below.next ?_ (by assumption)) | omega | (focus (simp; omega)) | (focus (simp; done))))⟩
      case round =>
        obtain ⟨k, hk, rfl, z, rfl, ⟨z0, z1⟩, HG, hbw⟩ := hrel
        have hszw := hbw.size
        by_cases hlt : k < l.length
        · obtain ⟨b, off, rfl, hbl, hc, hc2⟩ := (Rd.below ha hbw).rPartS hlt
          have hpg := partsGo_at hlt z n
          obtain ⟨p, hp⟩ : ∃ p, p = l[k]'hlt := ⟨_, rfl⟩
          rw [← hp] at hc hc2 hpg
          have HPG := Lib.hid (HG.out.trans hpg)
          clear hpg hp
          obtain ⟨pf, pc⟩ := p
          simp only at hc hc2 HPG
          by_cases c1 : pf < z
          · go_wp2
            go_ret
            refine ⟨ret_bool (parts_no3 ?_).symm, (by repeat (first | with_reducible exact Below.refl _ _ | with_reducible assumption | with_reducible refine below_drewN ?_ _ | with_reducible refine Below.drew ?_ | with_reducible refine Below.alloc ?_ ?_ _ | with_reducible refine Below.setCell ?_ ?_ _ | (with_reducible refine Below.next ?_ (by assumption)) | omega | (focus (simp; omega)) | (focus (simp; done))))⟩
            rw [HPG.out, partAt_no1 c1]; rfl
          · by_cases c2 : pc < 1
            · go_wp2
              go_ret
              refine ⟨ret_bool (parts_no3 ?_).symm, (by repeat (first | with_reducible exact Below.refl _ _ | with_reducible assumption | with_reducible refine below_drewN ?_ _ | with_reducible refine Below.drew ?_ | with_reducible refine Below.alloc ?_ ?_ _ | with_reducible refine Below.setCell ?_ ?_ _ | (with_reducible refine Below.next ?_ (by assumption)) | omega | (focus (simp; omega)) | (focus (simp; done))))⟩
              rw [HPG.out, partAt_no2 c2]; rfl
            · have hpi := @partAt_impl z n ⟨pf, pc⟩ z0 (by simp only; omega) (by simp only; omega)
              simp only at hpi
              cases c3 : partAt z n ⟨pf, pc⟩
              · rw [c3] at hpi
                have HPI := Lib.hid hpi
                have C3 := Lib.hid c3
                clear hpi c3
                go_wp2_with (go_at_call 85; refine (isStretch_any _ _ _ _ n0 (by omega)).mono ?_; rw [HPI.out]; rintro e w' ⟨rfl, rfl⟩)
                go_ret
                refine ⟨ret_bool (parts_no3 ?_).symm, (by repeat (first | with_reducible exact Below.refl _ _ | with_reducible assumption | with_reducible refine below_drewN ?_ _ | with_reducible refine Below.drew ?_ | with_reducible refine Below.alloc ?_ ?_ _ | with_reducible refine Below.setCell ?_ ?_ _ | (with_reducible refine Below.next ?_ (by assumption)) | omega | (focus (simp; omega)) | (focus (simp; done))))⟩
                rw [HPG.out, C3.out]; rfl
              · obtain ⟨p1, p2, p3⟩ := partAt_true.1 c3
                simp only at p1 p2 p3
                rw [c3] at hpi
                have HPI := Lib.hid hpi
                have C3 := Lib.hid c3
                clear hpi c3
                have hws := IntWalk.i64_in (pf + pc) (by omega)
                go_wp2_with (go_at_call 85; refine (isStretch_any _ _ _ _ n0 (by omega)).mono ?_; rw [HPI.out]; rintro e w' ⟨rfl, rfl⟩)
                go_roundw
                case rel =>
                  refine ⟨k + 1, by omega, by go_num, pf + pc, rfl, ⟨by omega, by omega⟩, Lib.hid ?_, (by repeat (first | with_reducible exact Below.refl _ _ | with_reducible assumption | with_reducible refine below_drewN ?_ _ | with_reducible refine Below.drew ?_ | with_reducible refine Below.alloc ?_ ?_ _ | with_reducible refine Below.setCell ?_ ?_ _ | (with_reducible refine Below.next ?_ (by assumption)) | omega | (focus (simp; omega)) | (focus (simp; done))))⟩
                  rw [HPG.out, C3.out]; rfl
                case measure => simp [intOf]; omega
        · go_wp2
          go_ret
          refine ⟨ret_bool ?_, (by repeat (first | with_reducible exact Below.refl _ _ | with_reducible assumption | with_reducible refine below_drewN ?_ _ | with_reducible refine Below.drew ?_ | with_reducible refine Below.alloc ?_ ?_ _ | with_reducible refine Below.setCell ?_ ?_ _ | (with_reducible refine Below.next ?_ (by assumption)) | omega | (focus (simp; omega)) | (focus (simp; done))))⟩
          have := HG.out
          rw [List.drop_eq_nil_of_le (by omega)] at this
          exact (parts_yes h1 H2.out (this.trans rfl)).symm
  · go_enter Try.func76, Try.ntmps76
    go_wp2
    go_ret
    exact ⟨ret_bool (parts_no1 h1).symm, (by repeat (first | with_reducible exact Below.refl _ _ | with_reducible assumption | with_reducible refine below_drewN ?_ _ | with_reducible refine Below.drew ?_ | with_reducible refine Below.alloc ?_ ?_ _ | with_reducible refine Below.setCell ?_ ?_ _ | (with_reducible refine Below.next ?_ (by assumption)) | omega | (focus (simp; omega)) | (focus (simp; done))))⟩
set_option maxHeartbeats 2000000 in
theorem specParts_c (A : Option Addr) (c : Nat) (l : List Pt) (n : Int) (w : World) (ha : Rd encPartS w A l) (hl : l.length ≤ 1099511627776) (hn : -9223372036854775808 ≤ n ∧ n ≤ 9223372036854775807) :
    Calls Try.prog 79 #[.slice A l.length c, .int .i64 n] w fun e w' => e = .returned (.bool (partsB l n)) ∧ ∃ q, w' = w.drewN q := by
  cases h2 : inB n 0 100000
  · have H2 := Lib.hid h2
    go_enter Try.func79, Try.ntmps79
    go_wp2_with (go_at_call 65; refine (l1In_any _ _ _ _).mono ?_; rw [H2.out]; rintro e w' ⟨rfl, rfl⟩)
    go_ret
    exact ⟨ret_bool (parts_no2 H2.out).symm, 0, rfl⟩
  · obtain ⟨n0, n1⟩ := inB_true.1 h2
    have H2 := Lib.hid h2
    clear h2
    go_enter Try.func79, Try.ntmps79
    go_wp2_with (go_at_call 65; refine (l1In_any _ _ _ _).mono ?_; rw [H2.out]; rintro e w' ⟨rfl, rfl⟩)
    go_loopw [5, 6] (fun ev i wr => ∃ k : Nat, k ≤ l.length ∧ i = .int .i64 k ∧ ∃ z : Int, ev = .int .i64 z ∧ (0 ≤ z ∧ z ≤ n) ∧ Hid (partsGo l 0 n = partsGo (l.drop k) z n) ∧ ∃ q, wr = w.drewN q) (fun _ i _ => l.length - (intOf i).toNat)
    case atStart => exact ⟨0, Nat.zero_le _, rfl, 0, rfl, ⟨by omega, n0⟩, Lib.hid (by simp), 0, rfl⟩
    case round =>
      obtain ⟨k, hk, rfl, z, rfl, ⟨z0, z1⟩, HG, q, rfl⟩ := hrel
      by_cases hlt : k < l.length
      · obtain ⟨b, off, rfl, hbl, hc, hc2⟩ := ha.rPartS hlt
        have hpg := partsGo_at hlt z n
        obtain ⟨p, hp⟩ : ∃ p, p = l[k]'hlt := ⟨_, rfl⟩
        rw [← hp] at hc hc2 hpg
        have HPG := Lib.hid (HG.out.trans hpg)
        clear hpg hp
        obtain ⟨pf, pc⟩ := p
        simp only at hc hc2 HPG
        have hps := @partAt_spec z n ⟨pf, pc⟩
        simp only at hps
        have HPS := Lib.hid hps
        have hw1 := IntWalk.i64_in (n - 1) (by omega)
        clear hps
        cases ha1 : inB pf z (n - 1)
        · have HA := Lib.hid ha1
          go_wp2
          go_quiet ((go_at_call 65; (first | exact quiet_left (l1In_any _ _ _ _) | exact quiet_add_left (l1In_any _ _ _ _))))
          go_wp2
          go_ret
          refine ⟨ret_bool (parts_no3 ?_).symm, _, World.drewN_drewN _ _ _⟩
          rw [HPG.out, ← HPS.out, HA.out]; rfl
        · obtain ⟨d0, d1⟩ := inB_true.1 ha1
          have hw2 := IntWalk.i64_in (n - pf) (by omega)
          cases hb1 : inB pc 1 (n - pf)
          · have HBB := Lib.hid hb1
            go_wp2
            go_quiet ((go_at_call 65; (first | exact quiet_left (l1In_any _ _ _ _) | exact quiet_add_left (l1In_any _ _ _ _))))
            go_wp2
            go_ret
            refine ⟨ret_bool (parts_no3 ?_).symm, _, World.drewN_drewN _ _ _⟩
            rw [HPG.out, ← HPS.out, HBB.out]; simp
          · obtain ⟨d2, d3⟩ := inB_true.1 hb1
            have HA := Lib.hid ha1
            have HBB := Lib.hid hb1
            have hws := IntWalk.i64_in (pf + pc) (by omega)
            go_wp2
            go_quiet ((go_at_call 65; (first | exact quiet_left (l1In_any _ _ _ _) | exact quiet_add_left (l1In_any _ _ _ _))))
            go_wp2
            go_quiet (fail)
            go_wp2
            go_roundw
            case rel =>
              refine ⟨k + 1, by omega, by go_num, pf + pc, rfl, ⟨by omega, by omega⟩, Lib.hid ?_, _, rfl⟩
              rw [HPG.out, ← HPS.out, HA.out, HBB.out]; rfl
            case measure => simp [intOf]; omega
      · go_wp2
        go_ret
        refine ⟨ret_bool ?_, _, rfl⟩
        have := HG.out
        rw [List.drop_eq_nil_of_le (by omega)] at this
        simp only [partsB, H2.out, this, partsGo, Bool.and_true]
        rw [decide_eq_decide]
        omega
set_option maxHeartbeats 4000000 in
theorem implCache_c (A : Option Addr) (c : Nat) (l : List Ln) (m n : Int) (w : World) (ha : Rd encLineS w A l) (hlc : l.length ≤ c) (_hl : l.length ≤ 1099511627776) (hn : -9223372036854775808 ≤ n ∧ n ≤ 9223372036854775807) :
    Calls Try.prog 77 #[.agg #[.slice A l.length c, .int .i64 m], .int .i64 n] w fun e w' => e = .returned (.bool (cacheB l m n)) ∧ Below w.heap.size w w' := by
  have L0 := Loc.new w [.slice A l.length c, .int .i64 m] 33
  cases h1 : inB n 0 64
  · have H1 := Lib.hid h1
    go_enter Try.func77, Try.ntmps77
    go_wp2_with (go_at_call 69; refine (within_any _ _ _ _).mono ?_; rw [H1.out]; rintro e w' ⟨rfl, rfl⟩)
    go_ret
    exact ⟨ret_bool (cache_no1 H1.out).symm, (by repeat (first | with_reducible exact Below.refl _ _ | with_reducible assumption | with_reducible refine below_drewN ?_ _ | with_reducible refine Below.drew ?_ | with_reducible refine Below.alloc ?_ ?_ _ | with_reducible refine Below.setCell ?_ ?_ _ | (with_reducible refine Below.next ?_ (by assumption)) | omega | (focus (simp; omega)) | (focus (simp; done))))⟩
  obtain ⟨n0, n1⟩ := inB_true.1 h1
  have H1 := Lib.hid h1
  cases h2 : inB m 1 8
  · have H2 := Lib.hid h2
    go_enter Try.func77, Try.ntmps77
    go_wp2_with (go_at_call 69; refine (within_any _ _ _ _).mono ?_; rintro e w' ⟨rfl, rfl⟩)
    go_ret
    exact ⟨ret_bool (cache_no2 H2.out).symm, (by repeat (first | with_reducible exact Below.refl _ _ | with_reducible assumption | with_reducible refine below_drewN ?_ _ | with_reducible refine Below.drew ?_ | with_reducible refine Below.alloc ?_ ?_ _ | with_reducible refine Below.setCell ?_ ?_ _ | (with_reducible refine Below.next ?_ (by assumption)) | omega | (focus (simp; omega)) | (focus (simp; done))))⟩
  obtain ⟨m0, m1⟩ := inB_true.1 h2
  have H2 := Lib.hid h2
  by_cases h3 : (l.length : Int) ≤ m
  · go_enter Try.func77, Try.ntmps77
    go_wp2_with (go_at_call 69; refine (within_any _ _ _ _).mono ?_; rintro e w' ⟨rfl, rfl⟩)
    clear h1 h2
    go_loopw [27] (fun i wr => ∃ k : Nat, k ≤ l.length ∧ i = .int .i64 k ∧ allK k (lnOk n l) = true ∧ Loc wr w.heap.size [.slice A l.length c, .int .i64 m] ∧ Below w.heap.size w wr) (fun i _ => l.length - (intOf i).toNat)
    case atStart => exact ⟨0, Nat.zero_le _, rfl, rfl, L0, (by repeat (first | with_reducible exact Below.refl _ _ | with_reducible assumption | with_reducible refine below_drewN ?_ _ | with_reducible refine Below.drew ?_ | with_reducible refine Below.alloc ?_ ?_ _ | with_reducible refine Below.setCell ?_ ?_ _ | (with_reducible refine Below.next ?_ (by assumption)) | omega | (focus (simp; omega)) | (focus (simp; done))))⟩
    case round =>
      obtain ⟨k, hk, rfl, ht, LW, hbw⟩ := hrel
      have HT := Lib.hid ht
      have hszw := hbw.size
      have zW := LW.lt
      obtain ⟨k0, k1, kf⟩ := LW.two
      clear ht
      by_cases hlt : k < l.length
      · have hra := Rd.below ha hbw
        obtain ⟨b, off, rfl, hbl, hc, hc2, hc3⟩ := hra.rLineS hlt
        obtain ⟨p, hp⟩ : ∃ p, p = l[k]'hlt := ⟨_, rfl⟩
        have HB := Lib.hid (lnOk_get (n := n) hlt)
        rw [← hp] at hc hc2 hc3 HB
        clear hp
        obtain ⟨pa, pv, pd⟩ := p
        simp only at hc hc2 hc3 HB
        have hw1 := IntWalk.i64_in (n - 1) (by omega)
        have LP := Loc.newAt wr [.int .i64 pa, .int .i64 pv, .bool pd] 95 (b := wr.heap.size) rfl
        have HTK := Lib.hid ((Rd.alloc hra (.cells #[.int .i64 pa, .int .i64 pv, .bool pd] 95)).take k)
        have htl : (l.take k).length = k := by simp; omega
        have HTL := Lib.hid htl
        clear htl
        have hic := idx_neg (l := (l.take k).map Ln.at_) (x := pa)
        obtain ⟨r, hr⟩ : ∃ r, r = idx ((l.take k).map Ln.at_) pa := ⟨_, rfl⟩
        have HR := Lib.hid hr
        rw [← hr] at hic
        have HIC := Lib.hid hic
        clear hic hr
        have hk0 : (0 : Int) ≤ (k : Int) := by omega
        have hk1 : (k : Int) ≤ (c : Int) := by omega
        cases i1 : inB pa 0 (n - 1)
        · have I1 := Lib.hid i1
          go_wp2
          go_quiet ((go_at_call 69; (first | exact quiet_left (within_any _ _ _ _) | exact quiet_add_left (within_any _ _ _ _))))
          go_wp2
          go_ret
          exact ⟨ret_bool (cache_no4 hlt (by rw [HB.out, I1.out]; rfl)).symm, (by repeat (first | with_reducible exact Below.refl _ _ | with_reducible assumption | with_reducible refine below_drewN ?_ _ | with_reducible refine Below.drew ?_ | with_reducible refine Below.alloc ?_ ?_ _ | with_reducible refine Below.setCell ?_ ?_ _ | (with_reducible refine Below.next ?_ (by assumption)) | omega | (focus (simp; omega)) | (focus (simp; done))))⟩
        · have I1 := Lib.hid i1
          cases i2 : inB pv 0 255
          · have I2 := Lib.hid i2
            go_wp2
            go_quiet ((go_at_call 69; (first | exact quiet_left (within_any _ _ _ _) | exact quiet_add_left (within_any _ _ _ _))))
            go_wp2
            go_ret
            exact ⟨ret_bool (cache_no4 hlt (by rw [HB.out, I1.out, I2.out]; rfl)).symm, (by repeat (first | with_reducible exact Below.refl _ _ | with_reducible assumption | with_reducible refine below_drewN ?_ _ | with_reducible refine Below.drew ?_ | with_reducible refine Below.alloc ?_ ?_ _ | with_reducible refine Below.setCell ?_ ?_ _ | (with_reducible refine Below.next ?_ (by assumption)) | omega | (focus (simp; omega)) | (focus (simp; done))))⟩
          · have I2 := Lib.hid i2
            cases hmem : decide (0 ≤ r)
            · have HMM : Hid (decide (pa ∈ (l.take k).map Ln.at_) = false) := Lib.hid (by simp only [decide_eq_false_iff_not] at hmem ⊢; exact HIC.out.1 (by omega))
              go_wp2
              go_region_held3 (fun w' => w'.cell? ⟨wr.heap.size, 0, none⟩ = some (.int .i64 pa) ∧ w'.cell? ⟨wr.heap.size, 1, none⟩ = some (.int .i64 pv) ∧ w'.cell? ⟨w.heap.size, 0, none⟩ = some (.slice (some ⟨b, off, none⟩) l.length c)) (first | (refine ⟨?_, ?_, ?_⟩ <;> assumption) | (refine ⟨?_, ?_, ?_⟩ <;> (simp [go_sem, *]; done)) | go_keep)
                (first
                  | (go_at_call 69; (with_reducible refine (within_any _ _ _ _).mono ?_); rintro e w' ⟨rfl, rfl⟩)
                  | (go_at_call 104; (with_reducible refine (lineAt_any _ _ _ (l.take k) pa _ HTL.out (by repeat (first | with_reducible exact HTK.out | with_reducible refine Rd.drew ?_ | with_reducible refine Rd.drewN ?_ _ | with_reducible refine Rd.alloc ?_ _ | (with_reducible refine Rd.below ?_ (by assumption)))) (by omega)).mono ?_); rw [← HR.out]; rintro e w3 ⟨rfl, hb3⟩; have P1 := Loc.carryB LP (fun h => by ((repeat (first | with_reducible exact h | with_reducible refine Loc.drew ?_ | with_reducible refine Loc.drewN ?_ _ | with_reducible refine Loc.alloc ?_ _)); done)) hb3; have M3 := Loc.carryB LW (fun h => by ((repeat (first | with_reducible exact h | with_reducible refine Loc.drew ?_ | with_reducible refine Loc.drewN ?_ _ | with_reducible refine Loc.alloc ?_ _)); done)) hb3; obtain ⟨p0, p1, p2, pf⟩ := P1.three; obtain ⟨r0, r1, rf⟩ := M3.two; have W3 : Hid (Below w.heap.size w w3) := Lib.hid (Below.next (W := w) (by repeat (first | with_reducible exact hbw | with_reducible exact Below.refl _ _ | with_reducible refine below_drewN ?_ _ | with_reducible refine Below.drew ?_ | with_reducible refine Below.alloc ?_ ?_ _ | with_reducible refine Below.setCell ?_ ?_ _ | (with_reducible refine Below.next ?_ (by assumption)) | ((with_reducible refine Below.far' (by assumption) ?_ ?_ ?_); (focus (first | omega | (simp; omega) | (simp; done))); (focus (first | omega | (simp; omega) | (simp; done)))) | omega | (focus (simp; omega)) | (focus (simp; done)))) hb3); clear hb3))
              go_wp2
              go_roundw
              case rel => exact ⟨k + 1, by omega, by go_num, allK_succ HT.out (by rw [HB.out, I1.out, I2.out, HMM.out]; rfl), M3, W3.out⟩
              case measure => simp [intOf]; omega
            · have HMM : Hid (decide (pa ∈ (l.take k).map Ln.at_) = true) := Lib.hid (by simp only [decide_eq_true_eq] at hmem ⊢; exact Decidable.byContradiction fun hn => by have := HIC.out.2 hn; omega)
              go_wp2
              go_region_held3 (fun w' => w'.cell? ⟨wr.heap.size, 0, none⟩ = some (.int .i64 pa) ∧ w'.cell? ⟨wr.heap.size, 1, none⟩ = some (.int .i64 pv) ∧ w'.cell? ⟨w.heap.size, 0, none⟩ = some (.slice (some ⟨b, off, none⟩) l.length c)) (first | (refine ⟨?_, ?_, ?_⟩ <;> assumption) | (refine ⟨?_, ?_, ?_⟩ <;> (simp [go_sem, *]; done)) | go_keep)
                (first
                  | (go_at_call 69; (with_reducible refine (within_any _ _ _ _).mono ?_); rintro e w' ⟨rfl, rfl⟩)
                  | (go_at_call 104; (with_reducible refine (lineAt_any _ _ _ (l.take k) pa _ HTL.out (by repeat (first | with_reducible exact HTK.out | with_reducible refine Rd.drew ?_ | with_reducible refine Rd.drewN ?_ _ | with_reducible refine Rd.alloc ?_ _ | (with_reducible refine Rd.below ?_ (by assumption)))) (by omega)).mono ?_); rw [← HR.out]; rintro e w3 ⟨rfl, hb3⟩; have P1 := Loc.carryB LP (fun h => by ((repeat (first | with_reducible exact h | with_reducible refine Loc.drew ?_ | with_reducible refine Loc.drewN ?_ _ | with_reducible refine Loc.alloc ?_ _)); done)) hb3; have M3 := Loc.carryB LW (fun h => by ((repeat (first | with_reducible exact h | with_reducible refine Loc.drew ?_ | with_reducible refine Loc.drewN ?_ _ | with_reducible refine Loc.alloc ?_ _)); done)) hb3; obtain ⟨p0, p1, p2, pf⟩ := P1.three; obtain ⟨r0, r1, rf⟩ := M3.two; have W3 : Hid (Below w.heap.size w w3) := Lib.hid (Below.next (W := w) (by repeat (first | with_reducible exact hbw | with_reducible exact Below.refl _ _ | with_reducible refine below_drewN ?_ _ | with_reducible refine Below.drew ?_ | with_reducible refine Below.alloc ?_ ?_ _ | with_reducible refine Below.setCell ?_ ?_ _ | (with_reducible refine Below.next ?_ (by assumption)) | ((with_reducible refine Below.far' (by assumption) ?_ ?_ ?_); (focus (first | omega | (simp; omega) | (simp; done))); (focus (first | omega | (simp; omega) | (simp; done)))) | omega | (focus (simp; omega)) | (focus (simp; done)))) hb3); clear hb3))
              go_wp2
              go_ret
              exact ⟨ret_bool (cache_no4 hlt (by rw [HB.out, I1.out, I2.out, HMM.out]; rfl)).symm, W3.out⟩
      · go_wp2
        go_ret
        refine ⟨ret_bool ?_, (by repeat (first | with_reducible exact Below.refl _ _ | with_reducible assumption | with_reducible refine below_drewN ?_ _ | with_reducible refine Below.drew ?_ | with_reducible refine Below.alloc ?_ ?_ _ | with_reducible refine Below.setCell ?_ ?_ _ | (with_reducible refine Below.next ?_ (by assumption)) | omega | (focus (simp; omega)) | (focus (simp; done))))⟩
        have he : k = l.length := by omega
        have := HT.out
        rw [he] at this
        exact (cache_yes H1.out H2.out h3 this).symm
  · go_enter Try.func77, Try.ntmps77
    go_wp2_with (go_at_call 69; refine (within_any _ _ _ _).mono ?_; rintro e w' ⟨rfl, rfl⟩)
    go_ret
    exact ⟨ret_bool (cache_no3 (by omega)).symm, (by repeat (first | with_reducible exact Below.refl _ _ | with_reducible assumption | with_reducible refine below_drewN ?_ _ | with_reducible refine Below.drew ?_ | with_reducible refine Below.alloc ?_ ?_ _ | with_reducible refine Below.setCell ?_ ?_ _ | (with_reducible refine Below.next ?_ (by assumption)) | omega | (focus (simp; omega)) | (focus (simp; done))))⟩
set_option maxHeartbeats 4000000 in
theorem specCache_c (A : Option Addr) (c : Nat) (l : List Ln) (m n : Int) (w : World) (ha : Rd encLineS w A l) (_hl : l.length ≤ 1099511627776) (hn : -9223372036854775808 ≤ n ∧ n ≤ 9223372036854775807) :
    Calls Try.prog 80 #[.agg #[.slice A l.length c, .int .i64 m], .int .i64 n] w fun e w' => e = .returned (.bool (cacheB l m n)) ∧ Below w.heap.size w w' := by
  have L0 := Loc.new w [.slice A l.length c, .int .i64 m] 33
  cases h1 : inB n 0 64
  · have H1 := Lib.hid h1
    go_enter Try.func80, Try.ntmps80
    go_wp2_with (go_at_call 65; refine (l1In_any _ _ _ _).mono ?_; rw [H1.out]; rintro e w' ⟨rfl, rfl⟩)
    go_ret
    exact ⟨ret_bool (cache_no1 H1.out).symm, (by repeat (first | with_reducible exact Below.refl _ _ | with_reducible assumption | with_reducible refine below_drewN ?_ _ | with_reducible refine Below.drew ?_ | with_reducible refine Below.alloc ?_ ?_ _ | with_reducible refine Below.setCell ?_ ?_ _ | (with_reducible refine Below.next ?_ (by assumption)) | omega | (focus (simp; omega)) | (focus (simp; done))))⟩
  obtain ⟨n0, n1⟩ := inB_true.1 h1
  have H1 := Lib.hid h1
  cases h2 : inB m 1 8
  · have H2 := Lib.hid h2
    go_enter Try.func80, Try.ntmps80
    go_wp2_with (go_at_call 65; refine (l1In_any _ _ _ _).mono ?_; rintro e w' ⟨rfl, rfl⟩)
    go_ret
    exact ⟨ret_bool (cache_no2 H2.out).symm, (by repeat (first | with_reducible exact Below.refl _ _ | with_reducible assumption | with_reducible refine below_drewN ?_ _ | with_reducible refine Below.drew ?_ | with_reducible refine Below.alloc ?_ ?_ _ | with_reducible refine Below.setCell ?_ ?_ _ | (with_reducible refine Below.next ?_ (by assumption)) | omega | (focus (simp; omega)) | (focus (simp; done))))⟩
  obtain ⟨m0, m1⟩ := inB_true.1 h2
  have H2 := Lib.hid h2
  by_cases h3 : (l.length : Int) ≤ m
  · have hra := Lib.hid (Rd.alloc ha (.cells #[.slice A l.length c, .int .i64 m] 33))
    go_enter Try.func80, Try.ntmps80
    go_wp2_with (go_at_call 65; refine (l1In_any _ _ _ _).mono ?_; rintro e w' ⟨rfl, rfl⟩)
    clear h1 h2
    obtain ⟨wa, hwa⟩ : ∃ x, x = w.alloc (.cells #[.slice A l.length c, .int .i64 m] 33) := ⟨_, rfl⟩
    have HBW : Hid (Below w.heap.size w wa) := Lib.hid (by rw [hwa]; exact (by repeat (first | with_reducible exact Below.refl _ _ | with_reducible assumption | with_reducible refine below_drewN ?_ _ | with_reducible refine Below.drew ?_ | with_reducible refine Below.alloc ?_ ?_ _ | with_reducible refine Below.setCell ?_ ?_ _ | (with_reducible refine Below.next ?_ (by assumption)) | omega | (focus (simp; omega)) | (focus (simp; done)))))
    rw [← hwa] at hra L0
    have HWA := Lib.hid hwa
    clear hwa
    obtain ⟨k0, k1, kf⟩ := L0.two
    have zW := L0.lt
    go_loopw [5] (fun i wr => ∃ k : Nat, k ≤ l.length ∧ i = .int .i64 k ∧ allK k (lnOk n l) = true ∧ ∃ q, wr = wa.drewN q) (fun i _ => l.length - (intOf i).toNat)
    case atStart => exact ⟨0, Nat.zero_le _, rfl, rfl, 0, HWA.out.symm⟩
    case round =>
      obtain ⟨k, hk, rfl, ht, q, rfl⟩ := hrel
      have HT := Lib.hid ht
      clear ht
      by_cases hlt : k < l.length
      · obtain ⟨b, off, rfl, hbl, hc, hc2, hc3⟩ := hra.out.rLineS hlt
        obtain ⟨p, hp⟩ : ∃ p, p = l[k]'hlt := ⟨_, rfl⟩
        have HP := Lib.hid hp
        have HB := Lib.hid (lnOk_get (n := n) hlt)
        rw [← hp] at hc hc2 HB
        clear hp hc3
        obtain ⟨pa, pv, pd⟩ := p
        simp only at hc hc2 HB
        have hw1 := IntWalk.i64_in (n - 1) (by omega)
        cases i1 : inB pa 0 (n - 1)
        · have I1 := Lib.hid i1
          go_wp2_with (go_at_call 65; refine (l1In_any _ _ _ _).mono ?_; rw [I1.out]; rintro e w' ⟨rfl, rfl⟩)
          go_ret
          exact ⟨ret_bool (cache_no4 hlt (by rw [HB.out, I1.out]; rfl)).symm, below_drewN HBW.out _⟩
        · have I1 := Lib.hid i1
          cases i2 : inB pv 0 255
          · have I2 := Lib.hid i2
            go_wp2_with (go_at_call 65; refine (l1In_any _ _ _ _).mono ?_; rintro e w' ⟨rfl, rfl⟩)
            go_ret
            exact ⟨ret_bool (cache_no4 hlt (by rw [HB.out, I1.out, I2.out]; rfl)).symm, below_drewN HBW.out _⟩
          · have I2 := Lib.hid i2
            go_wp2_with (go_at_call 65; refine (l1In_any _ _ _ _).mono ?_; rintro e w' ⟨rfl, rfl⟩)
            clear i1 i2
            go_loopw [6] (fun i wr => ∃ j : Nat, j ≤ k ∧ i = .int .i64 j ∧ Hid (∀ t (ht : t < l.length), t < j → l[t].at_ ≠ pa) ∧ ∃ q, wr = wa.drewN q) (fun i _ => k - (intOf i).toNat)
            case atStart => exact ⟨0, Nat.zero_le _, rfl, Lib.hid fun _ _ h => absurd h (by omega), _, rfl⟩
            case round =>
              obtain ⟨j, hj, rfl, HN, q2, rfl⟩ := hrel
              by_cases hjk : j < k
              · obtain ⟨b', off', hAB, hbl', hd, hd2, hd3⟩ := hra.out.rLineS (k := j) (by omega)
                cases hAB
                obtain ⟨y, hy⟩ : ∃ y, y = l[j]'(by omega) := ⟨_, rfl⟩
                have HY := Lib.hid hy
                rw [← hy] at hd
                clear hy hd2 hd3
                obtain ⟨ya, yv, yd⟩ := y
                simp only at hd
                cases hee : (ya == pa)
                · have HE := Lib.hid hee
                  go_wp2
                  go_quiet (fail)
                  go_wp2
                  go_roundw
                  case rel =>
                    refine ⟨j + 1, by omega, by go_num, Lib.hid fun t ht htj => ?_, _, rfl⟩
                    by_cases htk : t = j
                    · subst htk
                      rw [← HY.out]
                      have := HE.out
                      simpa using this
                    · exact HN.out t ht (by omega)
                  case measure => simp [intOf]; omega
                · have HE := Lib.hid hee
                  go_wp2
                  go_quiet (fail)
                  go_wp2
                  go_ret
                  refine ⟨ret_bool (cache_no4 hlt ?_).symm, below_drewN (below_drewN HBW.out _) _⟩
                  have hm : pa ∈ (l.take k).map Ln.at_ := by
                    rw [List.mem_map]
                    refine ⟨l[j]'(by omega), List.mem_take_iff_getElem.2 ⟨j, by omega, rfl⟩, ?_⟩
                    rw [← HY.out]
                    have := HE.out
                    simpa using this
                  have hmd := decide_eq_true hm
                  rw [HB.out, hmd]; simp
              · go_wp2
                go_roundw
                case rel =>
                  refine ⟨k + 1, by omega, by go_num, allK_succ HT.out ?_, _, rfl⟩
                  have hm : pa ∉ (l.take k).map Ln.at_ := by
                    rw [List.mem_map]
                    rintro ⟨y, hy, he⟩
                    obtain ⟨t, ht, rfl⟩ := List.getElem_of_mem hy
                    rw [List.getElem_take] at he
                    simp at ht
                    exact HN.out t (by omega) (by omega) he
                  have hmd := decide_eq_false hm
                  rw [HB.out, I1.out, I2.out, hmd]; rfl
                case measure => simp [intOf]; omega
      · go_wp2
        go_ret
        refine ⟨ret_bool ?_, ?_⟩
        · have he : k = l.length := by omega
          have := HT.out
          rw [he] at this
          exact (cache_yes H1.out H2.out h3 this).symm
        · exact below_drewN HBW.out _
  · go_enter Try.func80, Try.ntmps80
    go_wp2_with (go_at_call 65; refine (l1In_any _ _ _ _).mono ?_; rintro e w' ⟨rfl, rfl⟩)
    go_ret
    exact ⟨ret_bool (cache_no3 (by omega)).symm, (by repeat (first | with_reducible exact Below.refl _ _ | with_reducible assumption | with_reducible refine below_drewN ?_ _ | with_reducible refine Below.drew ?_ | with_reducible refine Below.alloc ?_ ?_ _ | with_reducible refine Below.setCell ?_ ?_ _ | (with_reducible refine Below.next ?_ (by assumption)) | omega | (focus (simp; omega)) | (focus (simp; done))))⟩
theorem specParts_b (A : Option Addr) (c : Nat) (l : List Pt) (n : Int) (w : World) (ha : Rd encPartS w A l) (hl : l.length ≤ 1099511627776) (hn : -9223372036854775808 ≤ n ∧ n ≤ 9223372036854775807) :
    Calls Try.prog 79 #[.slice A l.length c, .int .i64 n] w fun e w' => e = .returned (.bool (partsB l n)) ∧ Below w.heap.size w w' :=
  (specParts_c A c l n w ha hl hn).mono fun _ _ ⟨h1, q, h2⟩ => ⟨h1, by rw [h2]; exact below_drewN (Below.refl _ _) q⟩
set_option maxHeartbeats 4000000 in
theorem implStack_c (x0 x1 x2 x3 : Value) (t : Stk) (w : World) (h : StackRd w [x0, x1, x2, x3] t) (hs : sizeStack t ≤ 1099511627776) :
    Calls Try.prog 29 #[.agg #[x0, x1, x2, x3]] w fun e w' => e = .returned (.bool (stackB t)) ∧ Below w.heap.size w w' := by
  obtain ⟨A0, c0, A1, c1, A2, c2, e0, e1, e2, e3⟩ := id h.mst
  obtain ⟨u, v, y, h1, h2, h3, h4⟩ := h
  simp only [List.cons.injEq, and_true] at h1
  obtain ⟨rfl, rfl, rfl, rfl⟩ := h1
  subst e0 e1 e2
  unfold sizeStack at hs
  have L0 := Loc.new w [.slice A0 t.dsk.length c0, .slice A1 t.prt.length c1, .slice A2 t.lns.length c2, .int .i64 t.mst] 35
  have R0 : Hid (Rd eInt w A0 t.dsk) := Lib.hid (by obtain ⟨A', c', he, hr, _⟩ := h2; injection he with q1 q2 q3; subst q1; exact hr)
  have R1 : Hid (Rd encPartS w A1 t.prt) := Lib.hid (by obtain ⟨A', c', he, hr, _⟩ := h3; injection he with q1 q2 q3; subst q1; exact hr)
  have R2 : Hid (Rd encLineS w A2 t.lns ∧ t.lns.length ≤ c2) := Lib.hid (by obtain ⟨A', c', he, hr, hc, _⟩ := h4; injection he with q1 q2 q3; subst q1; subst q3; exact ⟨hr, hc⟩)
  clear h2 h3 h4
  obtain ⟨b1, hb1⟩ : ∃ b, b = diskB t.dsk := ⟨_, rfl⟩
  obtain ⟨b2, hb2⟩ : ∃ b, b = partsB t.prt t.dsk.length := ⟨_, rfl⟩
  obtain ⟨b3, hb3⟩ : ∃ b, b = cacheB t.lns t.mst t.dsk.length := ⟨_, rfl⟩
  have HB1 := Lib.hid hb1
  have HB2 := Lib.hid hb2
  have HB3 := Lib.hid hb3
  clear hb1 hb2 hb3
  have hst : Hid (stackB t = (b1 && b2 && b3)) := Lib.hid (by rw [HB1.out, HB2.out, HB3.out]; rfl)
  cases b1
  · go_enter Try.func29, Try.ntmps29
    go_wp2_with fail
    refine (diskValid_any A0 c0 t.dsk _ (R0.out.below (by repeat (first | with_reducible exact Below.refl _ _ | with_reducible refine below_drewN ?_ _ | with_reducible refine Below.drew ?_ | with_reducible refine Below.alloc ?_ ?_ _ | with_reducible refine Below.setCell ?_ ?_ _ | omega | (focus (simp; omega)) | (focus (simp; done))))) (by omega)).mono ?_
    rw [← HB1.out]
    rintro e w1 ⟨rfl, rfl⟩
    go_wp2
    go_ret
    exact ⟨ret_bool (by rw [hst.out]; rfl), (by repeat (first | with_reducible exact Below.refl _ _ | with_reducible assumption | with_reducible refine below_drewN ?_ _ | with_reducible refine Below.drew ?_ | with_reducible refine Below.alloc ?_ ?_ _ | with_reducible refine Below.setCell ?_ ?_ _ | (with_reducible refine Below.next ?_ (by assumption)) | omega | (focus (simp; omega)) | (focus (simp; done))))⟩
  · cases b2
    · go_enter Try.func29, Try.ntmps29
      go_wp2_with fail
      refine (diskValid_any A0 c0 t.dsk _ (R0.out.below (by repeat (first | with_reducible exact Below.refl _ _ | with_reducible refine below_drewN ?_ _ | with_reducible refine Below.drew ?_ | with_reducible refine Below.alloc ?_ ?_ _ | with_reducible refine Below.setCell ?_ ?_ _ | omega | (focus (simp; omega)) | (focus (simp; done))))) (by omega)).mono ?_
      rw [← HB1.out]
      rintro e w1 ⟨rfl, rfl⟩
      go_wp2_with fail
      refine (implParts_c A1 c1 t.prt t.dsk.length _ (R1.out.below (by repeat (first | with_reducible exact Below.refl _ _ | with_reducible refine below_drewN ?_ _ | with_reducible refine Below.drew ?_ | with_reducible refine Below.alloc ?_ ?_ _ | with_reducible refine Below.setCell ?_ ?_ _ | omega | (focus (simp; omega)) | (focus (simp; done))))) (by omega) (by omega)).mono ?_
      rw [← HB2.out]
      rintro e w2 ⟨rfl, hb2⟩
      go_wp2
      go_ret
      exact ⟨ret_bool (by rw [hst.out]; rfl), (by repeat (first | with_reducible exact Below.refl _ _ | with_reducible assumption | with_reducible refine below_drewN ?_ _ | with_reducible refine Below.drew ?_ | with_reducible refine Below.alloc ?_ ?_ _ | with_reducible refine Below.setCell ?_ ?_ _ | (with_reducible refine Below.next ?_ (by assumption)) | omega | (focus (simp; omega)) | (focus (simp; done))))⟩
    · go_enter Try.func29, Try.ntmps29
      go_wp2_with fail
      refine (diskValid_any A0 c0 t.dsk _ (R0.out.below (by repeat (first | with_reducible exact Below.refl _ _ | with_reducible refine below_drewN ?_ _ | with_reducible refine Below.drew ?_ | with_reducible refine Below.alloc ?_ ?_ _ | with_reducible refine Below.setCell ?_ ?_ _ | omega | (focus (simp; omega)) | (focus (simp; done))))) (by omega)).mono ?_
      rw [← HB1.out]
      rintro e w1 ⟨rfl, rfl⟩
      go_wp2_with fail
      refine (implParts_c A1 c1 t.prt t.dsk.length _ (R1.out.below (by repeat (first | with_reducible exact Below.refl _ _ | with_reducible refine below_drewN ?_ _ | with_reducible refine Below.drew ?_ | with_reducible refine Below.alloc ?_ ?_ _ | with_reducible refine Below.setCell ?_ ?_ _ | omega | (focus (simp; omega)) | (focus (simp; done))))) (by omega) (by omega)).mono ?_
      rw [← HB2.out]
      rintro e w2 ⟨rfl, hb2⟩
      have M0 := Loc.carryB L0 (fun h => by ((repeat (first | with_reducible exact h | with_reducible refine Loc.drew ?_ | with_reducible refine Loc.drewN ?_ _ | with_reducible refine Loc.alloc ?_ _)); done)) hb2
      obtain ⟨k0, k1, k2, k3, kf⟩ := M0.four
      go_wp2_with fail
      refine (implCache_c A2 c2 t.lns t.mst t.dsk.length _ (R2.out.1.below (Below.next (by repeat (first | with_reducible exact Below.refl _ _ | with_reducible refine below_drewN ?_ _ | with_reducible refine Below.drew ?_ | with_reducible refine Below.alloc ?_ ?_ _ | with_reducible refine Below.setCell ?_ ?_ _ | omega | (focus (simp; omega)) | (focus (simp; done)))) hb2)) R2.out.2 (by omega) (by omega)).mono ?_
      rw [← HB3.out]
      rintro e w3 ⟨rfl, hb3⟩
      go_wp2
      go_ret
      exact ⟨ret_bool (by rw [hst.out]; simp), (by repeat (first | with_reducible exact Below.refl _ _ | with_reducible assumption | with_reducible refine below_drewN ?_ _ | with_reducible refine Below.drew ?_ | with_reducible refine Below.alloc ?_ ?_ _ | with_reducible refine Below.setCell ?_ ?_ _ | (with_reducible refine Below.next ?_ (by assumption)) | omega | (focus (simp; omega)) | (focus (simp; done))))⟩
set_option maxHeartbeats 4000000 in
theorem specStack_c (x0 x1 x2 x3 : Value) (t : Stk) (w : World) (h : StackRd w [x0, x1, x2, x3] t) (hs : sizeStack t ≤ 1099511627776) :
    Calls Try.prog 30 #[.agg #[x0, x1, x2, x3]] w fun e w' => e = .returned (.bool (stackB t)) ∧ Below w.heap.size w w' := by
  obtain ⟨A0, c0, A1, c1, A2, c2, e0, e1, e2, e3⟩ := id h.mst
  obtain ⟨u, v, y, h1, h2, h3, h4⟩ := h
  simp only [List.cons.injEq, and_true] at h1
  obtain ⟨rfl, rfl, rfl, rfl⟩ := h1
  subst e0 e1 e2
  unfold sizeStack at hs
  have L0 := Loc.new w [.slice A0 t.dsk.length c0, .slice A1 t.prt.length c1, .slice A2 t.lns.length c2, .int .i64 t.mst] 35
  have R0 : Hid (Rd eInt w A0 t.dsk) := Lib.hid (by obtain ⟨A', c', he, hr, _⟩ := h2; injection he with q1 q2 q3; subst q1; exact hr)
  have R1 : Hid (Rd encPartS w A1 t.prt) := Lib.hid (by obtain ⟨A', c', he, hr, _⟩ := h3; injection he with q1 q2 q3; subst q1; exact hr)
  have R2 : Hid (Rd encLineS w A2 t.lns ∧ t.lns.length ≤ c2) := Lib.hid (by obtain ⟨A', c', he, hr, hc, _⟩ := h4; injection he with q1 q2 q3; subst q1; subst q3; exact ⟨hr, hc⟩)
  clear h2 h3 h4
  obtain ⟨b1, hb1⟩ : ∃ b, b = diskB t.dsk := ⟨_, rfl⟩
  obtain ⟨b2, hb2⟩ : ∃ b, b = partsB t.prt t.dsk.length := ⟨_, rfl⟩
  obtain ⟨b3, hb3⟩ : ∃ b, b = cacheB t.lns t.mst t.dsk.length := ⟨_, rfl⟩
  have HB1 := Lib.hid hb1
  have HB2 := Lib.hid hb2
  have HB3 := Lib.hid hb3
  clear hb1 hb2 hb3
  have hst : Hid (stackB t = (b1 && b2 && b3)) := Lib.hid (by rw [HB1.out, HB2.out, HB3.out]; rfl)
  cases b1
  · go_enter Try.func30, Try.ntmps30
    go_wp2_with fail
    refine (specDisk_any A0 c0 t.dsk _ (R0.out.below (by repeat (first | with_reducible exact Below.refl _ _ | with_reducible refine below_drewN ?_ _ | with_reducible refine Below.drew ?_ | with_reducible refine Below.alloc ?_ ?_ _ | with_reducible refine Below.setCell ?_ ?_ _ | omega | (focus (simp; omega)) | (focus (simp; done))))) (by omega)).mono ?_
    rw [← HB1.out]
    rintro e w1 ⟨rfl, rfl⟩
    go_wp2
    go_ret
    exact ⟨ret_bool (by rw [hst.out]; rfl), (by repeat (first | with_reducible exact Below.refl _ _ | with_reducible assumption | with_reducible refine below_drewN ?_ _ | with_reducible refine Below.drew ?_ | with_reducible refine Below.alloc ?_ ?_ _ | with_reducible refine Below.setCell ?_ ?_ _ | (with_reducible refine Below.next ?_ (by assumption)) | omega | (focus (simp; omega)) | (focus (simp; done))))⟩
  · cases b2
    · go_enter Try.func30, Try.ntmps30
      go_wp2_with fail
      refine (specDisk_any A0 c0 t.dsk _ (R0.out.below (by repeat (first | with_reducible exact Below.refl _ _ | with_reducible refine below_drewN ?_ _ | with_reducible refine Below.drew ?_ | with_reducible refine Below.alloc ?_ ?_ _ | with_reducible refine Below.setCell ?_ ?_ _ | omega | (focus (simp; omega)) | (focus (simp; done))))) (by omega)).mono ?_
      rw [← HB1.out]
      rintro e w1 ⟨rfl, rfl⟩
      go_wp2_with fail
      refine (specParts_b A1 c1 t.prt t.dsk.length _ (R1.out.below (by repeat (first | with_reducible exact Below.refl _ _ | with_reducible refine below_drewN ?_ _ | with_reducible refine Below.drew ?_ | with_reducible refine Below.alloc ?_ ?_ _ | with_reducible refine Below.setCell ?_ ?_ _ | omega | (focus (simp; omega)) | (focus (simp; done))))) (by omega) (by omega)).mono ?_
      rw [← HB2.out]
      rintro e w2 ⟨rfl, hb2⟩
      go_wp2
      go_ret
      exact ⟨ret_bool (by rw [hst.out]; rfl), (by repeat (first | with_reducible exact Below.refl _ _ | with_reducible assumption | with_reducible refine below_drewN ?_ _ | with_reducible refine Below.drew ?_ | with_reducible refine Below.alloc ?_ ?_ _ | with_reducible refine Below.setCell ?_ ?_ _ | (with_reducible refine Below.next ?_ (by assumption)) | omega | (focus (simp; omega)) | (focus (simp; done))))⟩
    · go_enter Try.func30, Try.ntmps30
      go_wp2_with fail
      refine (specDisk_any A0 c0 t.dsk _ (R0.out.below (by repeat (first | with_reducible exact Below.refl _ _ | with_reducible refine below_drewN ?_ _ | with_reducible refine Below.drew ?_ | with_reducible refine Below.alloc ?_ ?_ _ | with_reducible refine Below.setCell ?_ ?_ _ | omega | (focus (simp; omega)) | (focus (simp; done))))) (by omega)).mono ?_
      rw [← HB1.out]
      rintro e w1 ⟨rfl, rfl⟩
      go_wp2_with fail
      refine (specParts_b A1 c1 t.prt t.dsk.length _ (R1.out.below (by repeat (first | with_reducible exact Below.refl _ _ | with_reducible refine below_drewN ?_ _ | with_reducible refine Below.drew ?_ | with_reducible refine Below.alloc ?_ ?_ _ | with_reducible refine Below.setCell ?_ ?_ _ | omega | (focus (simp; omega)) | (focus (simp; done))))) (by omega) (by omega)).mono ?_
      rw [← HB2.out]
      rintro e w2 ⟨rfl, hb2⟩
      have M0 := Loc.carryB L0 (fun h => by ((repeat (first | with_reducible exact h | with_reducible refine Loc.drew ?_ | with_reducible refine Loc.drewN ?_ _ | with_reducible refine Loc.alloc ?_ _)); done)) hb2
      obtain ⟨k0, k1, k2, k3, kf⟩ := M0.four
      go_wp2_with fail
      refine (specCache_c A2 c2 t.lns t.mst t.dsk.length _ (R2.out.1.below (Below.next (by repeat (first | with_reducible exact Below.refl _ _ | with_reducible refine below_drewN ?_ _ | with_reducible refine Below.drew ?_ | with_reducible refine Below.alloc ?_ ?_ _ | with_reducible refine Below.setCell ?_ ?_ _ | omega | (focus (simp; omega)) | (focus (simp; done)))) hb2)) (by omega) (by omega)).mono ?_
      rw [← HB3.out]
      rintro e w3 ⟨rfl, hb3⟩
      go_wp2
      go_ret
      exact ⟨ret_bool (by rw [hst.out]; simp), (by repeat (first | with_reducible exact Below.refl _ _ | with_reducible assumption | with_reducible refine below_drewN ?_ _ | with_reducible refine Below.drew ?_ | with_reducible refine Below.alloc ?_ ?_ _ | with_reducible refine Below.setCell ?_ ?_ _ | (with_reducible refine Below.next ?_ (by assumption)) | omega | (focus (simp; omega)) | (focus (simp; done))))⟩
end Go.Proofs.Ytlhbjfjphckifaa
