/-
  Writing and viewing through a cache. Conditions: the disk and the cache are valid.
-/
import Derived.Test.YtlhbjfjphckifaaBase
import Derived.Test.YtlhbjfjphckifaaNum
import Derived.Test.YtlhbjfjphckifaaInts
import Derived.Test.YtlhbjfjphckifaaApp
import Derived.Test.YtlhbjfjphckifaaIntsW
import Derived.Test.YtlhbjfjphckifaaLib
import Derived.Test.YtlhbjfjphckifaaSpares
import Derived.Test.YtlhbjfjphckifaaOwn
import Derived.Test.YtlhbjfjphckifaaPart
import Derived.Test.YtlhbjfjphckifaaLine
import Derived.Test.YtlhbjfjphckifaaStack
import Derived.Test.YtlhbjfjphckifaaStackM
import Derived.Test.YtlhbjfjphckifaaStackC
import Derived.Test.YtlhbjfjphckifaaStackF
import Derived.Test.YtlhbjfjphckifaaStackU
import Derived.Test.YtlhbjfjphckifaaStackU2
import Derived.Test.YtlhbjfjphckifaaStackR
import Derived.Test.YtlhbjfjphckifaaStackD
import Derived.IntWalk
namespace Go.Proofs.Ytlhbjfjphckifaa
open Go.RowKit
set_option maxHeartbeats 4000000 in
theorem implCWrite_c (y u : Value) (l : List Ln) (m : Int) (d : List Int) (q : Nat) (v : Int) (w : World) (hy : SRd encLineS w y l) (hu : SRd eInt w u d) (hd : diskB d = true) (hcb : cacheB l m d.length = true) (hq : q < d.length) (hvv : inB v 0 255 = true) :
    Calls Try.prog 70 #[.agg #[y, .int .i64 m], u, .int .i64 q, .int .i64 v] w (MadeCD (cutL (lruL l ⟨q, v, true⟩) m) m (cutD d (lruL l ⟨q, v, true⟩) m) w) := by
  obtain ⟨A0, c0, rfl, ra, hc0, -⟩ := id hy
  obtain ⟨B0, d0, rfl, rb, -⟩ := id hu
  have hv := cache_iff.1 hcb
  have HY := Lib.hid hy
  have HU := Lib.hid hu
  have HV := Lib.hid hv
  have L0 := Loc.new w [.slice A0 l.length c0, .int .i64 m] 33
  have L1 := Loc.newAt (w.alloc (.cells #[.slice A0 l.length c0, .int .i64 m] 33)) [.slice none 0 0, .int .i64 0] 33 (b := w.heap.size + 1) (by simp)
  have hll : l.length ≤ 8 := by have := hv.len; have := hv.m1; omega
  have hdl : d.length ≤ 64 := by have := hv.n1; omega
  have HQ : Hid (inB (q : Int) 0 ((d.length : Int) - 1) = true) := Lib.hid (inB_true.2 (by omega))
  have HVV := Lib.hid hvv
  have hw0 := IntWalk.i64_in ((d.length : Int) - 1) (by omega)
  have HD := Lib.hid hd
  have HCB := Lib.hid hcb
  clear hd hcb hv hy hu hvv
  go_enter Try.func70, Try.ntmps70
  go_wp2_with fail
  refine (isCached_c _ _ l m d _ (HY.out.below (by repeat (first | with_reducible exact Below.refl _ _ | with_reducible refine below_drewN ?_ _ | with_reducible refine Below.drew ?_ | with_reducible refine Below.alloc ?_ ?_ _ | with_reducible refine Below.setCell ?_ ?_ _ | omega | (focus (simp; omega)) | (focus (simp; done))))) (HU.out.below (by repeat (first | with_reducible exact Below.refl _ _ | with_reducible refine below_drewN ?_ _ | with_reducible refine Below.drew ?_ | with_reducible refine Below.alloc ?_ ?_ _ | with_reducible refine Below.setCell ?_ ?_ _ | omega | (focus (simp; omega)) | (focus (simp; done))))) HD.out HCB.out).mono ?_
  rintro e w1 ⟨rfl, hb1⟩
  have M0 := Loc.carryB L0 (fun h => by ((repeat (first | with_reducible exact h | with_reducible refine Loc.drew ?_ | with_reducible refine Loc.drewN ?_ _ | with_reducible refine Loc.alloc ?_ _)); done)) hb1
  have M1 := Loc.carryB L1 (fun h => by ((repeat (first | with_reducible exact h | with_reducible refine Loc.drew ?_ | with_reducible refine Loc.drewN ?_ _ | with_reducible refine Loc.alloc ?_ _)); done)) hb1
  obtain ⟨k0, k1, kf⟩ := M0.two
  have W1 : Hid (Below w.heap.size w w1) := Lib.hid (Below.next (W := w) (by repeat (first | with_reducible exact Below.refl _ _ | with_reducible refine below_drewN ?_ _ | with_reducible refine Below.drew ?_ | with_reducible refine Below.alloc ?_ ?_ _ | with_reducible refine Below.setCell ?_ ?_ _ | omega | (focus (simp; omega)) | (focus (simp; done)))) hb1)
  have hz1 := hb1.size
  (try simp at hz1)
  have zM0 := M0.lt
  have zM1 := M1.lt
  have HQX : Hid (0 ≤ (q : Int) ∧ (q : Int) < d.length) := Lib.hid ⟨by omega, by omega⟩
  clear hb1
  go_wp2_with (go_at_call 69; (first | (with_reducible refine (within_k within_any (q : Int) 0 ((d.length : Int) - 1) _).mono ?_; rw [HQ.out]; rintro e w' ⟨rfl, rfl⟩) | (with_reducible refine (within_k within_any v 0 255 _).mono ?_; rw [HVV.out]; rintro e w' ⟨rfl, rfl⟩)))
  refine (implUse_c _ _ l m d ⟨q, v, true⟩ _ (HY.out.below W1.out) (HU.out.below W1.out) HV.out HQX.out).mono ?_
  rintro e w3 ⟨y3, u3, rfl, o3, p3, ap3, hb3⟩
  obtain ⟨Ay, cy, gy, rfl, -, -⟩ := id o3
  obtain ⟨Au, cu, gu, rfl, -, -⟩ := id p3
  have Q1 := Loc.carryB M1 (fun h => by ((repeat (first | with_reducible exact h | with_reducible refine Loc.drew ?_ | with_reducible refine Loc.drewN ?_ _ | with_reducible refine Loc.alloc ?_ _)); done)) hb3
  have W3 : Hid (Below w.heap.size w w3) := Lib.hid (Below.next (W := w) W1.out hb3)
  have hz3 := hb3.size
  have HO := Lib.hid o3
  have HP := Lib.hid p3
  have HAP := Lib.hid ap3
  clear hb3 o3 p3 ap3 k0 k1 kf M0 M1
  have zQ1 := Q1.lt
  obtain ⟨s0, s1, sf⟩ := Q1.two
  go_wp2
  refine bodyPost_ret (v := .tuple #[.agg #[.slice Ay (cutL (lruL l ⟨q, v, true⟩) m).length cy, .int .i64 m], .slice Au (cutD d (lruL l ⟨q, v, true⟩) m).length cu]) (by simp [results, Try.results70, go_sem, s0, s1]; done) rfl ⟨_, _, rfl, ?_, ?_, HAP.out, (by repeat (first | with_reducible exact W3.out | with_reducible exact Below.refl _ _ | with_reducible refine below_drewN ?_ _ | with_reducible refine Below.drew ?_ | with_reducible refine Below.alloc ?_ ?_ _ | with_reducible refine Below.setCell ?_ ?_ _ | (with_reducible refine Below.next ?_ (by assumption)) | ((with_reducible refine Below.far' (by assumption) ?_ ?_ ?_); (focus (first | omega | (simp; omega) | (simp; done))); (focus (first | omega | (simp; omega) | (simp; done)))) | omega | (focus (simp; omega)) | (focus (simp; done))))⟩
  · exact SOwn.mono (B := w1.heap.size) (C := w3.heap.size) (by repeat (first | with_reducible exact HO.out | with_reducible refine SOwn.drew ?_ | with_reducible refine SOwn.drewN ?_ _ | with_reducible refine SOwn.alloc ?_ _ | (with_reducible refine SOwn.below ?_ (by assumption)) | ((with_reducible refine SOwn.other ?_ ?_ _); rotate_left; (focus (first | omega | (simp; omega) | (simp; done)))))) (by omega) (by first | omega | (focus (simp; omega)) | (focus (simp; done)))
  · exact SOwn.mono (B := w1.heap.size) (C := w3.heap.size) (by repeat (first | with_reducible exact HP.out | with_reducible refine SOwn.drew ?_ | with_reducible refine SOwn.drewN ?_ _ | with_reducible refine SOwn.alloc ?_ _ | (with_reducible refine SOwn.below ?_ (by assumption)) | ((with_reducible refine SOwn.other ?_ ?_ _); rotate_left; (focus (first | omega | (simp; omega) | (simp; done)))))) (by omega) (by first | omega | (focus (simp; omega)) | (focus (simp; done)))
set_option maxHeartbeats 4000000 in
theorem specCWrite_c (y u : Value) (l : List Ln) (m : Int) (d : List Int) (q : Nat) (v : Int) (w : World) (hy : SRd encLineS w y l) (hu : SRd eInt w u d) (hd : diskB d = true) (hcb : cacheB l m d.length = true) (hq : q < d.length) (hvv : inB v 0 255 = true) :
    Calls Try.prog 67 #[.agg #[y, .int .i64 m], u, .int .i64 q, .int .i64 v] w (MadeCD (cutL (lruL l ⟨q, v, true⟩) m) m (cutD d (lruL l ⟨q, v, true⟩) m) w) := by
  obtain ⟨A0, c0, rfl, ra, hc0, -⟩ := id hy
  obtain ⟨B0, d0, rfl, rb, -⟩ := id hu
  have hv := cache_iff.1 hcb
  have HY := Lib.hid hy
  have HU := Lib.hid hu
  have HV := Lib.hid hv
  have L0 := Loc.new w [.slice A0 l.length c0, .int .i64 m] 33
  have L1 := Loc.newAt (w.alloc (.cells #[.slice A0 l.length c0, .int .i64 m] 33)) [.slice none 0 0, .int .i64 0] 33 (b := w.heap.size + 1) (by simp)
  have hll : l.length ≤ 8 := by have := hv.len; have := hv.m1; omega
  have hdl : d.length ≤ 64 := by have := hv.n1; omega
  have HVV := Lib.hid hvv
  have HD := Lib.hid hd
  have HCB := Lib.hid hcb
  clear hd hcb hv hy hu hvv
  go_enter Try.func67, Try.ntmps67
  go_wp2_with fail
  refine (l12Ok_c _ _ l m d q _ (HY.out.below (by repeat (first | with_reducible exact Below.refl _ _ | with_reducible refine below_drewN ?_ _ | with_reducible refine Below.drew ?_ | with_reducible refine Below.alloc ?_ ?_ _ | with_reducible refine Below.setCell ?_ ?_ _ | omega | (focus (simp; omega)) | (focus (simp; done))))) (HU.out.below (by repeat (first | with_reducible exact Below.refl _ _ | with_reducible refine below_drewN ?_ _ | with_reducible refine Below.drew ?_ | with_reducible refine Below.alloc ?_ ?_ _ | with_reducible refine Below.setCell ?_ ?_ _ | omega | (focus (simp; omega)) | (focus (simp; done))))) HD.out HCB.out hq).mono ?_
  rintro e w1 ⟨rfl, hb1⟩
  have M0 := Loc.carryB L0 (fun h => by ((repeat (first | with_reducible exact h | with_reducible refine Loc.drew ?_ | with_reducible refine Loc.drewN ?_ _ | with_reducible refine Loc.alloc ?_ _)); done)) hb1
  have M1 := Loc.carryB L1 (fun h => by ((repeat (first | with_reducible exact h | with_reducible refine Loc.drew ?_ | with_reducible refine Loc.drewN ?_ _ | with_reducible refine Loc.alloc ?_ _)); done)) hb1
  obtain ⟨k0, k1, kf⟩ := M0.two
  have W1 : Hid (Below w.heap.size w w1) := Lib.hid (Below.next (W := w) (by repeat (first | with_reducible exact Below.refl _ _ | with_reducible refine below_drewN ?_ _ | with_reducible refine Below.drew ?_ | with_reducible refine Below.alloc ?_ ?_ _ | with_reducible refine Below.setCell ?_ ?_ _ | omega | (focus (simp; omega)) | (focus (simp; done)))) hb1)
  have hz1 := hb1.size
  (try simp at hz1)
  have zM0 := M0.lt
  have zM1 := M1.lt
  have HQX : Hid (0 ≤ (q : Int) ∧ (q : Int) < d.length) := Lib.hid ⟨by omega, by omega⟩
  clear hb1
  go_wp2_with (go_at_call 65; refine (l1In_any _ _ _ _).mono ?_; rw [HVV.out]; rintro e w' ⟨rfl, rfl⟩)
  refine (specUse_c _ _ l m d ⟨q, v, true⟩ _ (HY.out.below W1.out) (HU.out.below W1.out) HV.out HQX.out).mono ?_
  rintro e w3 ⟨y3, u3, rfl, o3, p3, ap3, hb3⟩
  obtain ⟨Ay, cy, gy, rfl, -, -⟩ := id o3
  obtain ⟨Au, cu, gu, rfl, -, -⟩ := id p3
  have Q1 := Loc.carryB M1 (fun h => by ((repeat (first | with_reducible exact h | with_reducible refine Loc.drew ?_ | with_reducible refine Loc.drewN ?_ _ | with_reducible refine Loc.alloc ?_ _)); done)) hb3
  have W3 : Hid (Below w.heap.size w w3) := Lib.hid (Below.next (W := w) W1.out hb3)
  have hz3 := hb3.size
  have HO := Lib.hid o3
  have HP := Lib.hid p3
  have HAP := Lib.hid ap3
  clear hb3 o3 p3 ap3 k0 k1 kf M0 M1
  have zQ1 := Q1.lt
  obtain ⟨s0, s1, sf⟩ := Q1.two
  go_wp2
  refine bodyPost_ret (v := .tuple #[.agg #[.slice Ay (cutL (lruL l ⟨q, v, true⟩) m).length cy, .int .i64 m], .slice Au (cutD d (lruL l ⟨q, v, true⟩) m).length cu]) (by simp [results, Try.results67, go_sem, s0, s1]; done) rfl ⟨_, _, rfl, ?_, ?_, HAP.out, (by repeat (first | with_reducible exact W3.out | with_reducible exact Below.refl _ _ | with_reducible refine below_drewN ?_ _ | with_reducible refine Below.drew ?_ | with_reducible refine Below.alloc ?_ ?_ _ | with_reducible refine Below.setCell ?_ ?_ _ | (with_reducible refine Below.next ?_ (by assumption)) | ((with_reducible refine Below.far' (by assumption) ?_ ?_ ?_); (focus (first | omega | (simp; omega) | (simp; done))); (focus (first | omega | (simp; omega) | (simp; done)))) | omega | (focus (simp; omega)) | (focus (simp; done))))⟩
  · exact SOwn.mono (B := w1.heap.size) (C := w3.heap.size) (by repeat (first | with_reducible exact HO.out | with_reducible refine SOwn.drew ?_ | with_reducible refine SOwn.drewN ?_ _ | with_reducible refine SOwn.alloc ?_ _ | (with_reducible refine SOwn.below ?_ (by assumption)) | ((with_reducible refine SOwn.other ?_ ?_ _); rotate_left; (focus (first | omega | (simp; omega) | (simp; done)))))) (by omega) (by first | omega | (focus (simp; omega)) | (focus (simp; done)))
  · exact SOwn.mono (B := w1.heap.size) (C := w3.heap.size) (by repeat (first | with_reducible exact HP.out | with_reducible refine SOwn.drew ?_ | with_reducible refine SOwn.drewN ?_ _ | with_reducible refine SOwn.alloc ?_ _ | (with_reducible refine SOwn.below ?_ (by assumption)) | ((with_reducible refine SOwn.other ?_ ?_ _); rotate_left; (focus (first | omega | (simp; omega) | (simp; done)))))) (by omega) (by first | omega | (focus (simp; omega)) | (focus (simp; done)))
set_option maxHeartbeats 4000000 in
theorem implCView_c (y u : Value) (l : List Ln) (m : Int) (d : List Int) (w : World) (hy : SRd encLineS w y l) (hu : SRd eInt w u d) (hd : diskB d = true) (hcb : cacheB l m d.length = true) :
    Calls Try.prog 84 #[.agg #[y, .int .i64 m], u] w (MadeS eInt 3 (seeD d l) w) := by
  obtain ⟨A0, c0, rfl, ra, hc0, -⟩ := id hy
  obtain ⟨B0, d0, rfl, rb, -⟩ := id hu
  have hv := cache_iff.1 hcb
  have HY := Lib.hid hy
  have HU := Lib.hid hu
  have HV := Lib.hid hv
  have L0 := Loc.new w [.slice A0 l.length c0, .int .i64 m] 33
  have hll : l.length ≤ 8 := by have := hv.len; have := hv.m1; omega
  have hdl : d.length ≤ 64 := by have := hv.n1; omega
  have HD := Lib.hid hd
  have HCB := Lib.hid hcb
  clear hd hcb hv hy hu
  go_enter Try.func84, Try.ntmps84
  go_wp2_with fail
  refine (isCached_c _ _ l m d _ (HY.out.below (by repeat (first | with_reducible exact Below.refl _ _ | with_reducible refine below_drewN ?_ _ | with_reducible refine Below.drew ?_ | with_reducible refine Below.alloc ?_ ?_ _ | with_reducible refine Below.setCell ?_ ?_ _ | omega | (focus (simp; omega)) | (focus (simp; done))))) (HU.out.below (by repeat (first | with_reducible exact Below.refl _ _ | with_reducible refine below_drewN ?_ _ | with_reducible refine Below.drew ?_ | with_reducible refine Below.alloc ?_ ?_ _ | with_reducible refine Below.setCell ?_ ?_ _ | omega | (focus (simp; omega)) | (focus (simp; done))))) HD.out HCB.out).mono ?_
  rintro e w1 ⟨rfl, hb1⟩
  have M0 := Loc.carryB L0 (fun h => by ((repeat (first | with_reducible exact h | with_reducible refine Loc.drew ?_ | with_reducible refine Loc.drewN ?_ _ | with_reducible refine Loc.alloc ?_ _)); done)) hb1
  obtain ⟨k0, k1, kf⟩ := M0.two
  have W1 : Hid (Below w.heap.size w w1) := Lib.hid (Below.next (W := w) (by repeat (first | with_reducible exact Below.refl _ _ | with_reducible refine below_drewN ?_ _ | with_reducible refine Below.drew ?_ | with_reducible refine Below.alloc ?_ ?_ _ | with_reducible refine Below.setCell ?_ ?_ _ | omega | (focus (simp; omega)) | (focus (simp; done)))) hb1)
  have hz1 := hb1.size
  (try simp at hz1)
  clear hb1
  go_wp2_with fail
  refine (cloneInt_v _ d _ (HU.out.below W1.out) (by omega)).mono ?_
  rintro e w2 ⟨u2, rfl, o2, hb2⟩
  obtain ⟨A1, c1, g1, rfl, row1, hg1, -⟩ := o2.row (w2.heap.size + 5)
  have N0 := Loc.carryB M0 (fun h => by ((repeat (first | with_reducible exact h | with_reducible refine Loc.drew ?_ | with_reducible refine Loc.drewN ?_ _ | with_reducible refine Loc.alloc ?_ _)); done)) hb2
  have W2 : Hid (Below w.heap.size w w2) := Lib.hid (Below.next (W := w) W1.out hb2)
  have hz2 := hb2.size
  have zN0 := N0.lt
  have hG1 : w.heap.size + 1 ≤ g1 := by rcases hg1 with ⟨_, h1⟩ | ⟨_, _, _, h1, h1'⟩ <;> omega
  clear hb2 o2 hg1 k0 k1 kf M0 L0
  obtain ⟨k0, k1, kf⟩ := N0.two
  go_wp2
  go_loopw [17] (fun i wr => ∃ k : Nat, k ≤ l.length ∧ i = .int .i64 k ∧ Below w.heap.size w wr ∧ ∃ D : List Int, Hid (D = seeD d (l.take k)) ∧ (D.length ≤ d.length ∧ d.length ≤ D.length) ∧ Row eInt wr g1 3 A1 c1 D) (fun i _ => l.length - (intOf i).toNat)
  case atStart => exact ⟨0, Nat.zero_le _, rfl, W2.out, d, Lib.hid (by simp [seeD]), ⟨Nat.le_refl _, Nat.le_refl _⟩, row1⟩
  case round =>
    clear k0 k1 kf N0 row1
    obtain ⟨k, hk, rfl, hbw, D, HD2, ⟨hD1, hD2⟩, r1⟩ := hrel
    have HBW := Lib.hid hbw
    have hzw := hbw.size
    clear hbw
    by_cases hlt : k < l.length
    · obtain ⟨b, off, rfl, hbl, hc, hc2, hc3⟩ := (ra.below HBW.out).rLineS hlt
      have hbw0 : b < w.heap.size := ra.lt (by omega) rfl
      have hpr := HV.out.rng _ (List.getElem_mem hlt)
      have hsu := seeD_succ d hlt
      obtain ⟨p, hp⟩ : ∃ p, p = l[k]'hlt := ⟨_, rfl⟩
      rw [← hp] at hc hc2 hc3 hpr hsu
      clear hp
      obtain ⟨pa, pv, pd⟩ := p
      simp only at hc hc2 hc3 hpr hsu
      obtain ⟨p0, p1, p2, p3⟩ := hpr
      obtain ⟨j, rfl⟩ := Int.eq_ofNat_of_zero_le p0
      have hjD : j < D.length := by omega
      obtain ⟨rfl, hg1l, hfz1, hcD⟩ := r1.int (by omega)
      have hcj := hcD j hjD
      have hne1 : g1 ≠ wr.heap.size := by omega
      have HSU : Hid (seeD d (l.take (k + 1)) = D.set j pv) := Lib.hid (by rw [hsu, ← HD2.out]; simp)
      have HS1 : Hid (Row eInt (wr.setCell ⟨g1, j, none⟩ (.int .i64 pv)) g1 3 (some ⟨g1, 0, none⟩) c1 (D.set j pv)) := Lib.hid (r1.setInt hjD pv)
      clear hsu hcD r1
      go_wp2
      go_roundw
      case rel =>
        exact ⟨k + 1, by omega, by go_num, (by repeat (first | with_reducible exact HBW.out | with_reducible exact Below.refl _ _ | with_reducible refine below_drewN ?_ _ | with_reducible refine Below.drew ?_ | with_reducible refine Below.alloc ?_ ?_ _ | with_reducible refine Below.setCell ?_ ?_ _ | (with_reducible refine Below.next ?_ (by assumption)) | ((with_reducible refine Below.far' (by assumption) ?_ ?_ ?_); (focus (first | omega | (simp; omega) | (simp; done))); (focus (first | omega | (simp; omega) | (simp; done)))) | omega | (focus (simp; omega)) | (focus (simp; done)))), D.set j pv, Lib.hid HSU.out.symm, ⟨by simpa using hD1, by simpa using hD2⟩, (by repeat (first | with_reducible exact HS1.out | with_reducible refine Row.drew ?_ | with_reducible refine Row.drewN ?_ _ | with_reducible refine Row.alloc ?_ _ | (with_reducible refine Row.below ?_ (by assumption)) | ((with_reducible refine Row.other ?_ ?_ _); rotate_left; (focus (first | omega | (simp; omega) | (simp; done)))) | ((with_reducible refine Row.far' (by assumption) ?_ ?_); (focus (first | omega | (simp; omega) | (simp; done))))))⟩
      case measure => simp [intOf]; omega
    · have HLE : Hid (D = seeD d l) := Lib.hid (by rw [HD2.out, seeD_all d (by omega)])
      have R1 := Lib.hid r1
      have hDl : D.length = d.length := by omega
      have hse := seeD_len d l
      clear r1
      go_wp2
      go_ret
      refine ⟨_, rfl, ?_, HBW.out⟩
      rw [← HLE.out]
      exact sown_n hDl (SOwn.mono (SOwn.of_fresh (D := w.heap.size + 1) R1.out hG1) (by omega) (Nat.le_refl _))
set_option maxHeartbeats 4000000 in
theorem specCView_c (y u : Value) (l : List Ln) (m : Int) (d : List Int) (w : World) (hy : SRd encLineS w y l) (hu : SRd eInt w u d) (hd : diskB d = true) (hcb : cacheB l m d.length = true) :
    Calls Try.prog 87 #[.agg #[y, .int .i64 m], u] w (MadeS eInt 3 (seeD d l) w) := by
  obtain ⟨A0, c0, rfl, ra, hc0, -⟩ := id hy
  obtain ⟨B0, d0, rfl, rb, -⟩ := id hu
  have hv := cache_iff.1 hcb
  have HV := Lib.hid hv
  have L0 := Loc.new w [.slice A0 l.length c0, .int .i64 m] 33
  have hll : l.length ≤ 8 := by have := hv.len; have := hv.m1; omega
  have hdl : d.length ≤ 64 := by have := hv.n1; omega
  have n1 : ([] : List Int).length + d.length ≤ maxLen := by simp [maxLen]; omega
  have b1 : (([] : List Int).length + d.length) * 8 ≤ 140737488355328 := by simp; omega
  have HD := Lib.hid hd
  have HCB := Lib.hid hcb
  clear hd hcb hv hy hu
  go_enter Try.func87, Try.ntmps87
  go_wp2_with fail
  refine (specDisk_any B0 d0 d _ (rb.below (by repeat (first | with_reducible exact Below.refl _ _ | with_reducible refine below_drewN ?_ _ | with_reducible refine Below.drew ?_ | with_reducible refine Below.alloc ?_ ?_ _ | with_reducible refine Below.setCell ?_ ?_ _ | omega | (focus (simp; omega)) | (focus (simp; done))))) (by omega)).mono ?_
  rw [HD.out]
  rintro e w0 ⟨rfl, rfl⟩
  go_wp2_with fail
  refine (specCache_c A0 c0 l m d.length _ (ra.below (by repeat (first | with_reducible exact Below.refl _ _ | with_reducible refine below_drewN ?_ _ | with_reducible refine Below.drew ?_ | with_reducible refine Below.alloc ?_ ?_ _ | with_reducible refine Below.setCell ?_ ?_ _ | omega | (focus (simp; omega)) | (focus (simp; done))))) (by omega) (by omega)).mono ?_
  rw [HCB.out]
  rintro e w1 ⟨rfl, hb1⟩
  have M0 := Loc.carryB L0 (fun h => by ((repeat (first | with_reducible exact h | with_reducible refine Loc.drew ?_ | with_reducible refine Loc.drewN ?_ _ | with_reducible refine Loc.alloc ?_ _)); done)) hb1
  obtain ⟨k0, k1, kf⟩ := M0.two
  have W1 : Hid (Below w.heap.size w w1) := Lib.hid (Below.next (W := w) (by repeat (first | with_reducible exact Below.refl _ _ | with_reducible refine below_drewN ?_ _ | with_reducible refine Below.drew ?_ | with_reducible refine Below.alloc ?_ ?_ _ | with_reducible refine Below.setCell ?_ ?_ _ | omega | (focus (simp; omega)) | (focus (simp; done)))) hb1)
  have hz1 := hb1.size
  (try simp at hz1)
  have zM0 := M0.lt
  have RB := Lib.hid (rb.below W1.out)
  clear hb1
  go_wp2_with (at_builtin; go_must (refine wpList_append_row rfl _ _ rfl el_int rfl (Row.made0 (by simp)) _ _ d rfl (Rd.alloc RB.out _) n1 b1 ?_; intro A1 c1 g1 w2 D0 hD0 hle1 hle2 row1 hg1 hgg1; have N0 := Loc.carry M0 (fun h => by ((repeat (first | with_reducible exact h | with_reducible refine Loc.drew ?_ | with_reducible refine Loc.drewN ?_ _ | with_reducible refine Loc.alloc ?_ _)); done)) hg1 (by first | omega | (simp; omega) | (simp; done))))
  have e1 := hD0.out
  simp only [List.nil_append] at e1
  subst e1
  have hz2 := hg1.size
  simp at hz2 hgg1
  have W2 : Hid (Below w.heap.size w w2) := Lib.hid (Below.gin (D := w.heap.size) (a := w) (by repeat (first | with_reducible exact W1.out | with_reducible exact Below.refl _ _ | with_reducible refine below_drewN ?_ _ | with_reducible refine Below.drew ?_ | with_reducible refine Below.alloc ?_ ?_ _ | with_reducible refine Below.setCell ?_ ?_ _ | (with_reducible refine Below.next ?_ (by assumption)) | ((with_reducible refine Below.far' (by assumption) ?_ ?_ ?_); (focus (first | omega | (simp; omega) | (simp; done))); (focus (first | omega | (simp; omega) | (simp; done)))) | omega | (focus (simp; omega)) | (focus (simp; done)))) (GIn.of_grown hg1 (Nat.le_refl _) (Nat.lt_succ_self _)) (by first | omega | (simp; omega) | (simp; done)) (by first | omega | (simp; omega) | (simp; done)))
  have hG1 : w.heap.size + 1 ≤ g1 := by omega
  clear hD0 hle1 hle2 hgg1 hg1 k0 k1 kf M0 L0
  obtain ⟨k0, k1, kf⟩ := N0.two
  go_loopw [6] (fun i wr => ∃ k : Nat, k ≤ l.length ∧ i = .int .i64 k ∧ Loc wr w.heap.size [.slice A0 l.length c0, .int .i64 m] ∧ Below w.heap.size w wr ∧ ∃ D : List Int, Hid (D = seeD D0 (l.take k)) ∧ (D.length ≤ D0.length ∧ D0.length ≤ D.length) ∧ Row eInt wr g1 3 A1 c1 D) (fun i _ => l.length - (intOf i).toNat)
  case atStart => exact ⟨0, Nat.zero_le _, rfl, N0, W2.out, D0, Lib.hid (by simp [seeD]), ⟨Nat.le_refl _, Nat.le_refl _⟩, row1⟩
  case round =>
    clear k0 k1 kf N0 row1
    obtain ⟨k, hk, rfl, P0, hbw, D, HD2, ⟨hD1, hD2⟩, r1⟩ := hrel
    have HBW := Lib.hid hbw
    have hzw := hbw.size
    obtain ⟨k0, k1, kf⟩ := P0.two
    have zP0 := P0.lt
    clear hbw
    by_cases hlt : k < l.length
    · obtain ⟨b, off, rfl, hbl, hc, hc2, hc3⟩ := (ra.below HBW.out).rLineS hlt
      have hbw0 : b < w.heap.size := ra.lt (by omega) rfl
      have hpr := HV.out.rng _ (List.getElem_mem hlt)
      have hsu := seeD_succ D0 hlt
      obtain ⟨p, hp⟩ : ∃ p, p = l[k]'hlt := ⟨_, rfl⟩
      rw [← hp] at hc hc2 hc3 hpr hsu
      clear hp
      obtain ⟨pa, pv, pd⟩ := p
      simp only at hc hc2 hc3 hpr hsu
      obtain ⟨p0, p1, p2, p3⟩ := hpr
      obtain ⟨j, rfl⟩ := Int.eq_ofNat_of_zero_le p0
      have hjD : j < D.length := by omega
      obtain ⟨rfl, hg1l, hfz1, hcD⟩ := r1.int (by omega)
      have hcj := hcD j hjD
      have HSU : Hid (seeD D0 (l.take (k + 1)) = D.set j pv) := Lib.hid (by rw [hsu, ← HD2.out]; simp)
      have HS1 : Hid (Row eInt (wr.setCell ⟨g1, j, none⟩ (.int .i64 pv)) g1 3 (some ⟨g1, 0, none⟩) c1 (D.set j pv)) := Lib.hid (r1.setInt hjD pv)
      have hne1 : g1 ≠ w.heap.size := by omega
      clear hsu hcD r1
      go_wp2
      go_region
      all_goals
        go_wp2
        go_roundw
        case rel =>
          exact ⟨k + 1, by omega, by go_num, (by repeat (first | with_reducible exact P0 | with_reducible refine Loc.drew ?_ | with_reducible refine Loc.drewN ?_ _ | with_reducible refine Loc.alloc ?_ _ | (with_reducible refine Loc.below ?_ (by assumption)) | ((with_reducible refine Loc.other' ?_ ?_ _); (focus (first | omega | (simp; omega) | (simp; done)))) | ((with_reducible refine Loc.far' (by assumption) ?_ ?_); (focus (first | omega | (simp; omega) | (simp; done)))))), (by repeat (first | with_reducible exact HBW.out | with_reducible exact Below.refl _ _ | with_reducible refine below_drewN ?_ _ | with_reducible refine Below.drew ?_ | with_reducible refine Below.alloc ?_ ?_ _ | with_reducible refine Below.setCell ?_ ?_ _ | (with_reducible refine Below.next ?_ (by assumption)) | ((with_reducible refine Below.far' (by assumption) ?_ ?_ ?_); (focus (first | omega | (simp; omega) | (simp; done))); (focus (first | omega | (simp; omega) | (simp; done)))) | omega | (focus (simp; omega)) | (focus (simp; done)))), D.set j pv, Lib.hid HSU.out.symm, ⟨by simpa using hD1, by simpa using hD2⟩, (by repeat (first | with_reducible exact HS1.out | with_reducible refine Row.drew ?_ | with_reducible refine Row.drewN ?_ _ | with_reducible refine Row.alloc ?_ _ | (with_reducible refine Row.below ?_ (by assumption)) | ((with_reducible refine Row.other ?_ ?_ _); rotate_left; (focus (first | omega | (simp; omega) | (simp; done)))) | ((with_reducible refine Row.far' (by assumption) ?_ ?_); (focus (first | omega | (simp; omega) | (simp; done))))))⟩
        case measure => simp [intOf]; omega
    · have HLE : Hid (D = seeD D0 l) := Lib.hid (by rw [HD2.out, seeD_all D0 (by omega)])
      have R1 := Lib.hid r1
      have hDl : D.length = D0.length := by omega
      have hse := seeD_len D0 l
      clear r1
      go_wp2
      go_ret
      refine ⟨_, rfl, ?_, HBW.out⟩
      rw [← HLE.out]
      exact sown_n hDl (SOwn.mono (SOwn.of_fresh (D := w.heap.size + 1) R1.out hG1) (by omega) (Nat.le_refl _))
end Go.Proofs.Ytlhbjfjphckifaa
