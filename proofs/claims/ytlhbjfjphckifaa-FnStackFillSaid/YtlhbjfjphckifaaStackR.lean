/-
  Reading, writing and viewing through a cache. Conditions: the disk and the cache are valid.
-/
import Derived.Test.YtlhbjfjphckifaaBase
import Derived.Test.YtlhbjfjphckifaaNum
import Derived.Test.YtlhbjfjphckifaaInts
import Derived.Test.YtlhbjfjphckifaaApp
import Derived.Test.YtlhbjfjphckifaaIntsW
import Derived.Test.YtlhbjfjphckifaaLib
import Derived.Test.YtlhbjfjphckifaaSpares
import Derived.Test.YtlhbjfjphckifaaOwn
import Derived.Test.YtlhbjfjphckifaaPart
import Derived.Test.YtlhbjfjphckifaaLine
import Derived.Test.YtlhbjfjphckifaaStack
import Derived.Test.YtlhbjfjphckifaaStackM
import Derived.Test.YtlhbjfjphckifaaStackC
import Derived.Test.YtlhbjfjphckifaaStackF
import Derived.Test.YtlhbjfjphckifaaStackU
import Derived.Test.YtlhbjfjphckifaaStackU2
import Derived.IntWalk
namespace Go.Proofs.Ytlhbjfjphckifaa
open Go.RowKit
theorem lineFor_hit {l : List Ln} {d : List Int} {q : Int} {i : Nat} (h : idx (l.map Ln.at_) q = i) (hi : i < l.length) : lineFor l d q = l[i] := by
  unfold lineFor; rw [if_pos (by omega), h]; simp [hi]
theorem lineFor_miss {l : List Ln} {d : List Int} {q : Nat} (h : idx (l.map Ln.at_) q < 0) (hq : q < d.length) : lineFor l d q = ⟨q, d[q], false⟩ := by
  unfold lineFor; rw [if_neg (by omega)]; simp [hq]
theorem lineFor_at {l : List Ln} {d : List Int} {q : Int} : (lineFor l d q).at_ = q := by
  unfold lineFor
  split
  · rename_i h
    obtain ⟨k, e1, hk, e2, -⟩ := idx_get h
    have hk' : k < l.length := by simpa using hk
    rw [e1]
    simpa [hk'] using e2
  · rfl
/-- A value, a cache and a disk come back. -/
def MadeVCD (v : Int) (l : List Ln) (m : Int) (d : List Int) (w : World) (en : Ending) (w' : World) : Prop := ∃ y u, en = .returned (.tuple #[.int .i64 v, .agg #[y, .int .i64 m], u]) ∧ SOwn encLineS tyLineS w.heap.size w' w'.heap.size y l ∧ SOwn eInt 3 w.heap.size w' w'.heap.size u d ∧ Apart y u ∧ Below w.heap.size w w'
set_option maxHeartbeats 1000000 in
theorem isCached_c (y u : Value) (l : List Ln) (m : Int) (d : List Int) (w : World) (hy : SRd encLineS w y l) (hu : SRd eInt w u d) (hd : diskB d = true) (hcb : cacheB l m d.length = true) :
    Calls Try.prog 101 #[.agg #[y, .int .i64 m], u] w fun e w' => e = .returned (.bool true) ∧ Below w.heap.size w w' := by
  obtain ⟨A0, c0, rfl, ra, hc0, -⟩ := id hy
  obtain ⟨B0, d0, rfl, rb, -⟩ := id hu
  have hv := cache_iff.1 hcb
  have L0 := Loc.new w [.slice A0 l.length c0, .int .i64 m] 33
  have hll : l.length ≤ 8 := by have := hv.len; have := hv.m1; omega
  have hdl : d.length ≤ 64 := by have := hv.n1; omega
  have HD := Lib.hid hd
  have HCB := Lib.hid hcb
  clear hd hcb
  go_enter Try.func101, Try.ntmps101
  go_wp2_with fail
  refine (diskValid_any B0 d0 d _ (rb.below (by repeat (first | with_reducible exact Below.refl _ _ | with_reducible refine below_drewN ?_ _ | with_reducible refine Below.drew ?_ | with_reducible refine Below.alloc ?_ ?_ _ | with_reducible refine Below.setCell ?_ ?_ _ | omega | (focus (simp; omega)) | (focus (simp; done))))) (by omega)).mono ?_
  rw [HD.out]
  rintro e w1 ⟨rfl, rfl⟩
  go_wp2_with fail
  refine (implCache_c A0 c0 l m d.length _ (ra.below (by repeat (first | with_reducible exact Below.refl _ _ | with_reducible refine below_drewN ?_ _ | with_reducible refine Below.drew ?_ | with_reducible refine Below.alloc ?_ ?_ _ | with_reducible refine Below.setCell ?_ ?_ _ | omega | (focus (simp; omega)) | (focus (simp; done))))) hc0 (by omega) (by omega)).mono ?_
  rw [HCB.out]
  rintro e w2 ⟨rfl, hb2⟩
  go_wp2
  go_ret
  exact ⟨rfl, (by repeat (first | with_reducible exact Below.refl _ _ | with_reducible assumption | with_reducible refine below_drewN ?_ _ | with_reducible refine Below.drew ?_ | with_reducible refine Below.alloc ?_ ?_ _ | with_reducible refine Below.setCell ?_ ?_ _ | (with_reducible refine Below.next ?_ (by assumption)) | omega | (focus (simp; omega)) | (focus (simp; done))))⟩
set_option maxHeartbeats 1000000 in
theorem l12Ok_c (y u : Value) (l : List Ln) (m : Int) (d : List Int) (q : Nat) (w : World) (hy : SRd encLineS w y l) (hu : SRd eInt w u d) (hd : diskB d = true) (hcb : cacheB l m d.length = true) (hq : q < d.length) :
    Calls Try.prog 98 #[.agg #[y, .int .i64 m], u, .int .i64 q] w fun e w' => e = .returned (.bool true) ∧ Below w.heap.size w w' := by
  obtain ⟨A0, c0, rfl, ra, hc0, -⟩ := id hy
  obtain ⟨B0, d0, rfl, rb, -⟩ := id hu
  have hv := cache_iff.1 hcb
  have L0 := Loc.new w [.slice A0 l.length c0, .int .i64 m] 33
  have hll : l.length ≤ 8 := by have := hv.len; have := hv.m1; omega
  have hdl : d.length ≤ 64 := by have := hv.n1; omega
  have HQ : Hid (inB (q : Int) 0 ((d.length : Int) - 1) = true) := Lib.hid (inB_true.2 (by omega))
  have hw0 := IntWalk.i64_in ((d.length : Int) - 1) (by omega)
  have HD := Lib.hid hd
  have HCB := Lib.hid hcb
  clear hd hcb
  go_enter Try.func98, Try.ntmps98
  go_wp2_with fail
  refine (specDisk_any B0 d0 d _ (rb.below (by repeat (first | with_reducible exact Below.refl _ _ | with_reducible refine below_drewN ?_ _ | with_reducible refine Below.drew ?_ | with_reducible refine Below.alloc ?_ ?_ _ | with_reducible refine Below.setCell ?_ ?_ _ | omega | (focus (simp; omega)) | (focus (simp; done))))) (by omega)).mono ?_
  rw [HD.out]
  rintro e w1 ⟨rfl, rfl⟩
  go_wp2_with fail
  refine (specCache_c A0 c0 l m d.length _ (ra.below (by repeat (first | with_reducible exact Below.refl _ _ | with_reducible refine below_drewN ?_ _ | with_reducible refine Below.drew ?_ | with_reducible refine Below.alloc ?_ ?_ _ | with_reducible refine Below.setCell ?_ ?_ _ | omega | (focus (simp; omega)) | (focus (simp; done))))) (by omega) (by omega)).mono ?_
  rw [HCB.out]
  rintro e w2 ⟨rfl, hb2⟩
  go_wp2_with (go_at_call 65; refine (l1In_any _ _ _ _).mono ?_; rw [HQ.out]; rintro e w' ⟨rfl, rfl⟩)
  go_ret
  exact ⟨rfl, (by repeat (first | with_reducible exact Below.refl _ _ | with_reducible assumption | with_reducible refine below_drewN ?_ _ | with_reducible refine Below.drew ?_ | with_reducible refine Below.alloc ?_ ?_ _ | with_reducible refine Below.setCell ?_ ?_ _ | (with_reducible refine Below.next ?_ (by assumption)) | omega | (focus (simp; omega)) | (focus (simp; done))))⟩
/-- The line of a sector, if there is one. -/
def FoundL (l : List Ln) (q : Int) (w : World) (e : Ending) (w' : World) : Prop := ∃ (z : Ln) (ok : Bool), e = .returned (.tuple #[.agg #[.int .i64 z.at_, .int .i64 z.val, .bool z.drt], .bool ok]) ∧ (ok = true → ∃ i : Nat, idx (l.map Ln.at_) q = i ∧ ∃ h : i < l.length, z = l[i]) ∧ (ok = false → idx (l.map Ln.at_) q < 0) ∧ Below w.heap.size w w'
set_option maxHeartbeats 2000000 in
theorem l12Find_c (y : Value) (l : List Ln) (m q : Int) (w : World) (hy : SRd encLineS w y l) (hl : l.length ≤ 1099511627776) :
    Calls Try.prog 103 #[.agg #[y, .int .i64 m], .int .i64 q] w (FoundL l q w) := by
  obtain ⟨A0, c0, rfl, ra, -⟩ := id hy
  have L0 := Loc.new w [.slice A0 l.length c0, .int .i64 m] 33
  have L1 := Loc.newAt (w.alloc (.cells #[.slice A0 l.length c0, .int .i64 m] 33)) [.int .i64 0, .int .i64 0, .bool false] 95 (b := w.heap.size + 1) (by simp)
  have M0 := Loc.alloc L0 (.cells #[.int .i64 0, .int .i64 0, .bool false] 95)
  obtain ⟨k0, k1, kf⟩ := M0.two
  obtain ⟨l0, l1, l2, lf⟩ := L1.three
  have z0 := M0.lt
  have z1 := L1.lt
  go_enter Try.func103, Try.ntmps103
  go_wp2
  go_loop [6] (fun i => ∃ k : Nat, k ≤ l.length ∧ i = .int .i64 k ∧ ∀ j (h : j < (l.map Ln.at_).length), j < k → (l.map Ln.at_)[j] ≠ q) (fun i => l.length - (intOf i).toNat)
  case atStart => exact ⟨0, Nat.zero_le _, rfl, fun j _ h => absurd h (by omega)⟩
  case round =>
    obtain ⟨k, hk, rfl, ht⟩ := hrel
    have HT := Lib.hid ht
    clear ht
    by_cases hlt : k < l.length
    · obtain ⟨b', off, rfl, hbl, hc, hc2, hc3⟩ := (ra.below (by repeat (first | with_reducible exact Below.refl _ _ | with_reducible refine below_drewN ?_ _ | with_reducible refine Below.drew ?_ | with_reducible refine Below.alloc ?_ ?_ _ | with_reducible refine Below.setCell ?_ ?_ _ | omega | (focus (simp; omega)) | (focus (simp; done))))).rLineS hlt
      have hmk : (l.map Ln.at_)[k]'(by simpa using hlt) = (l[k]'hlt).at_ := by simp
      have HMK := Lib.hid hmk
      clear hmk
      obtain ⟨p, hp⟩ : ∃ p, p = l[k]'hlt := ⟨_, rfl⟩
      rw [← hp] at hc hc2 hc3 HMK
      have HP := Lib.hid hp
      clear hp
      obtain ⟨pa, pv, pd⟩ := p
      simp only at hc hc2 hc3 HMK
      cases hee : (pa == q)
      · have HE := Lib.hid hee
        go_wp2
        go_round
        case rel =>
          refine ⟨k + 1, by omega, by go_num, fun j h hj => ?_⟩
          by_cases hjk : j = k
          · subst hjk
            rw [HMK.out]
            simpa using HE.out
          · exact HT.out j h (by omega)
        case measure => simp [intOf]; omega
      · have HE := Lib.hid hee
        go_wp2
        refine bodyPost_ret (v := .tuple #[.agg #[.int .i64 pa, .int .i64 pv, .bool pd], .bool true]) (by simp [results, Try.results103, go_sem, *]; done) rfl ?_
        have hkm : k < (l.map Ln.at_).length := by simpa using hlt
        exact ⟨⟨pa, pv, pd⟩, true, rfl, fun _ => ⟨k, idx_at hkm (by rw [HMK.out]; simpa using HE.out) fun j hj => HT.out j (by omega) hj, hlt, HP.out⟩, (fun h => nomatch h), (by repeat (first | with_reducible exact Below.refl _ _ | with_reducible assumption | with_reducible refine below_drewN ?_ _ | with_reducible refine Below.drew ?_ | with_reducible refine Below.alloc ?_ ?_ _ | with_reducible refine Below.setCell ?_ ?_ _ | (with_reducible refine Below.next ?_ (by assumption)) | omega | (focus (simp; omega)) | (focus (simp; done))))⟩
    · go_wp2
      refine bodyPost_ret (v := .tuple #[.agg #[.int .i64 0, .int .i64 0, .bool false], .bool false]) (by simp [results, Try.results103, go_sem, *]; done) rfl ?_
      have := idx_no (l := l.map Ln.at_) (x := q) fun j h => HT.out j h (by simp at h; omega)
      exact ⟨⟨0, 0, false⟩, false, rfl, (fun h => nomatch h), fun _ => by omega, (by repeat (first | with_reducible exact Below.refl _ _ | with_reducible assumption | with_reducible refine below_drewN ?_ _ | with_reducible refine Below.drew ?_ | with_reducible refine Below.alloc ?_ ?_ _ | with_reducible refine Below.setCell ?_ ?_ _ | (with_reducible refine Below.next ?_ (by assumption)) | omega | (focus (simp; omega)) | (focus (simp; done))))⟩
set_option maxHeartbeats 4000000 in
theorem implRead_c (y u : Value) (l : List Ln) (m : Int) (d : List Int) (q : Nat) (w : World) (hy : SRd encLineS w y l) (hu : SRd eInt w u d) (hd : diskB d = true) (hcb : cacheB l m d.length = true) (hq : q < d.length) :
    Calls Try.prog 72 #[.agg #[y, .int .i64 m], u, .int .i64 q] w (MadeVCD (lineFor l d q).val (cutL (lruL l (lineFor l d q)) m) m (cutD d (lruL l (lineFor l d q)) m) w) := by
  obtain ⟨A0, c0, rfl, ra, hc0, -⟩ := id hy
  obtain ⟨B0, d0, rfl, rb, -⟩ := id hu
  have hv := cache_iff.1 hcb
  have HY := Lib.hid hy
  have HU := Lib.hid hu
  have HV := Lib.hid hv
  have L0 := Loc.new w [.slice A0 l.length c0, .int .i64 m] 33
  have L1 := Loc.newAt (w.alloc (.cells #[.slice A0 l.length c0, .int .i64 m] 33)) [.slice none 0 0, .int .i64 0] 33 (b := w.heap.size + 1) (by simp)
  have hll : l.length ≤ 8 := by have := hv.len; have := hv.m1; omega
  have hdl : d.length ≤ 64 := by have := hv.n1; omega
  have HQ : Hid (inB (q : Int) 0 ((d.length : Int) - 1) = true) := Lib.hid (inB_true.2 (by omega))
  have hw0 := IntWalk.i64_in ((d.length : Int) - 1) (by omega)
  have HD := Lib.hid hd
  have HCB := Lib.hid hcb
  obtain ⟨z, hz⟩ : ∃ z, z = lineFor l d (q : Int) := ⟨_, rfl⟩
  have HZ := Lib.hid hz
  have hza : z.at_ = q := by rw [hz]; exact lineFor_at
  rw [← hz]
  clear hz hd hcb hv hy hu
  go_enter Try.func72, Try.ntmps72
  go_wp2_with fail
  refine (isCached_c _ _ l m d _ (HY.out.below (by repeat (first | with_reducible exact Below.refl _ _ | with_reducible refine below_drewN ?_ _ | with_reducible refine Below.drew ?_ | with_reducible refine Below.alloc ?_ ?_ _ | with_reducible refine Below.setCell ?_ ?_ _ | omega | (focus (simp; omega)) | (focus (simp; done))))) (HU.out.below (by repeat (first | with_reducible exact Below.refl _ _ | with_reducible refine below_drewN ?_ _ | with_reducible refine Below.drew ?_ | with_reducible refine Below.alloc ?_ ?_ _ | with_reducible refine Below.setCell ?_ ?_ _ | omega | (focus (simp; omega)) | (focus (simp; done))))) HD.out HCB.out).mono ?_
  rintro e w1 ⟨rfl, hb1⟩
  have M0 := Loc.carryB L0 (fun h => by ((repeat (first | with_reducible exact h | with_reducible refine Loc.drew ?_ | with_reducible refine Loc.drewN ?_ _ | with_reducible refine Loc.alloc ?_ _)); done)) hb1
  have M1 := Loc.carryB L1 (fun h => by ((repeat (first | with_reducible exact h | with_reducible refine Loc.drew ?_ | with_reducible refine Loc.drewN ?_ _ | with_reducible refine Loc.alloc ?_ _)); done)) hb1
  obtain ⟨k0, k1, kf⟩ := M0.two
  have W1 : Hid (Below w.heap.size w w1) := Lib.hid (Below.next (W := w) (by repeat (first | with_reducible exact Below.refl _ _ | with_reducible refine below_drewN ?_ _ | with_reducible refine Below.drew ?_ | with_reducible refine Below.alloc ?_ ?_ _ | with_reducible refine Below.setCell ?_ ?_ _ | omega | (focus (simp; omega)) | (focus (simp; done)))) hb1)
  have hz1 := hb1.size
  (try simp at hz1)
  have zM0 := M0.lt
  have zM1 := M1.lt
  obtain ⟨b, off, rfl, hbl, hcd⟩ := Rd.int (rb.below W1.out) hq
  have hbw0 : b < w.heap.size := rb.lt (by omega) rfl
  have L2 := Loc.newAt w1 [.int .i64 q, .int .i64 (d[q]'hq), .bool false] 95 (b := w1.heap.size) rfl
  have N0 := Loc.alloc M0 (.cells #[.int .i64 q, .int .i64 (d[q]'hq), .bool false] 95)
  have N1 := Loc.alloc M1 (.cells #[.int .i64 q, .int .i64 (d[q]'hq), .bool false] 95)
  have WL := Lib.hid (Below.alloc W1.out (by omega) (.cells #[.int .i64 q, .int .i64 (d[q]'hq), .bool false] 95))
  clear hb1
  go_wp2_with (go_at_call 69; refine (within_any _ _ _ _).mono ?_; rw [HQ.out]; rintro e w' ⟨rfl, rfl⟩)
  refine (lineAt_any _ l.length c0 l q _ rfl (ra.below WL.out) (by omega)).mono ?_
  rintro e w2 ⟨rfl, hb2⟩
  have P0 := Loc.carryB N0 (fun h => by ((repeat (first | with_reducible exact h | with_reducible refine Loc.drew ?_ | with_reducible refine Loc.drewN ?_ _ | with_reducible refine Loc.alloc ?_ _)); done)) hb2
  have P1 := Loc.carryB N1 (fun h => by ((repeat (first | with_reducible exact h | with_reducible refine Loc.drew ?_ | with_reducible refine Loc.drewN ?_ _ | with_reducible refine Loc.alloc ?_ _)); done)) hb2
  have P2 := Loc.carryB L2 (fun h => by ((repeat (first | with_reducible exact h | with_reducible refine Loc.drew ?_ | with_reducible refine Loc.drewN ?_ _ | with_reducible refine Loc.alloc ?_ _)); done)) hb2
  have W2 : Hid (Below w.heap.size w w2) := Lib.hid (Below.next (W := w) WL.out hb2)
  have hz2 := hb2.size
  (try simp at hz2)
  have zP0 := P0.lt
  have zP1 := P1.lt
  have zP2 := P2.lt
  clear hb2 k0 k1 kf
  obtain ⟨k0, k1, kf⟩ := P0.two
  have HQX : Hid (0 ≤ (q : Int) ∧ (q : Int) < d.length) := Lib.hid ⟨by omega, by omega⟩
  have hle := idx_le (l.map Ln.at_) (q : Int)
  obtain ⟨ix, hix⟩ : ∃ ix, ix = idx (l.map Ln.at_) (q : Int) := ⟨_, rfl⟩
  rw [← hix] at hle ⊢
  have HIX := Lib.hid hix
  obtain ⟨za, zv, zd⟩ := z
  simp only at hza
  subst hza
  clear hix
  by_cases h0 : 0 ≤ ix
  · obtain ⟨i, rfl⟩ := Int.eq_ofNat_of_zero_le h0
    have hil : i < l.length := by simp at hle; omega
    have hzi := HZ.out
    rw [lineFor_hit HIX.out.symm hil] at hzi
    obtain ⟨b', off', rfl, hbl', hc, hc2, hc3⟩ := (ra.below W2.out).rLineS hil
    have hbw0' : b' < w.heap.size := ra.lt (by omega) rfl
    rw [← hzi] at hc hc2 hc3
    simp only at hc hc2 hc3
    have hne0 : b' ≠ w1.heap.size := by omega
    obtain ⟨r0, r1, r2, rf⟩ := P2.three
    clear hzi hle h0
    go_wp2_with fail
    refine (implUse_c _ _ l m d ⟨q, zv, zd⟩ _ (HY.out.below (by repeat (first | with_reducible exact W2.out | with_reducible exact Below.refl _ _ | with_reducible refine below_drewN ?_ _ | with_reducible refine Below.drew ?_ | with_reducible refine Below.alloc ?_ ?_ _ | with_reducible refine Below.setCell ?_ ?_ _ | (with_reducible refine Below.next ?_ (by assumption)) | ((with_reducible refine Below.far' (by assumption) ?_ ?_ ?_); (focus (first | omega | (simp; omega) | (simp; done))); (focus (first | omega | (simp; omega) | (simp; done)))) | omega | (focus (simp; omega)) | (focus (simp; done))))) (HU.out.below (by repeat (first | with_reducible exact W2.out | with_reducible exact Below.refl _ _ | with_reducible refine below_drewN ?_ _ | with_reducible refine Below.drew ?_ | with_reducible refine Below.alloc ?_ ?_ _ | with_reducible refine Below.setCell ?_ ?_ _ | (with_reducible refine Below.next ?_ (by assumption)) | ((with_reducible refine Below.far' (by assumption) ?_ ?_ ?_); (focus (first | omega | (simp; omega) | (simp; done))); (focus (first | omega | (simp; omega) | (simp; done)))) | omega | (focus (simp; omega)) | (focus (simp; done))))) HV.out HQX.out).mono ?_
    have P2' : Loc (((w2.setCell ⟨w1.heap.size, 0, none⟩ (.int .i64 q)).setCell ⟨w1.heap.size, 1, none⟩ (.int .i64 zv)).setCell ⟨w1.heap.size, 2, none⟩ (.bool zd)) w1.heap.size [.int .i64 q, .int .i64 zv, .bool zd] := by simpa using ((P2.set 0 (.int .i64 q)).set 1 (.int .i64 zv)).set 2 (.bool zd)
    rintro e w3 ⟨y3, u3, rfl, o3, p3, ap3, hb3⟩
    obtain ⟨Ay, cy, gy, rfl, -, -⟩ := id o3
    obtain ⟨Au, cu, gu, rfl, -, -⟩ := id p3
    have Q1 := Loc.carryB P1 (fun h => (by repeat (first | with_reducible exact h | with_reducible refine Loc.drew ?_ | with_reducible refine Loc.drewN ?_ _ | with_reducible refine Loc.alloc ?_ _ | (with_reducible refine Loc.below ?_ (by assumption)) | ((with_reducible refine Loc.other' ?_ ?_ _); (focus (first | omega | (simp; omega) | (simp; done)))) | ((with_reducible refine Loc.far' (by assumption) ?_ ?_); (focus (first | omega | (simp; omega) | (simp; done))))))) hb3
    have Q2 := Loc.carryB P2' (fun h => (by repeat (first | with_reducible exact h | with_reducible refine Loc.drew ?_ | with_reducible refine Loc.drewN ?_ _ | with_reducible refine Loc.alloc ?_ _ | (with_reducible refine Loc.below ?_ (by assumption)) | ((with_reducible refine Loc.other' ?_ ?_ _); (focus (first | omega | (simp; omega) | (simp; done)))) | ((with_reducible refine Loc.far' (by assumption) ?_ ?_); (focus (first | omega | (simp; omega) | (simp; done))))))) hb3
    have W3 : Hid (Below w.heap.size w w3) := Lib.hid (Below.next (W := w) (by repeat (first | with_reducible exact W2.out | with_reducible exact Below.refl _ _ | with_reducible refine below_drewN ?_ _ | with_reducible refine Below.drew ?_ | with_reducible refine Below.alloc ?_ ?_ _ | with_reducible refine Below.setCell ?_ ?_ _ | (with_reducible refine Below.next ?_ (by assumption)) | ((with_reducible refine Below.far' (by assumption) ?_ ?_ ?_); (focus (first | omega | (simp; omega) | (simp; done))); (focus (first | omega | (simp; omega) | (simp; done)))) | omega | (focus (simp; omega)) | (focus (simp; done)))) hb3)
    have hz3 := hb3.size
    (try simp at hz3)
    have LC := Loc.newAt w3 [.slice Ay (cutL (lruL l ⟨q, zv, zd⟩) m).length cy, .int .i64 m] 33 (b := w3.heap.size) rfl
    have S1 := Loc.alloc Q1 (.cells #[.slice Ay (cutL (lruL l ⟨q, zv, zd⟩) m).length cy, .int .i64 m] 33)
    have S2 := Loc.alloc Q2 (.cells #[.slice Ay (cutL (lruL l ⟨q, zv, zd⟩) m).length cy, .int .i64 m] 33)
    have HO : Hid (SOwn encLineS tyLineS w2.heap.size w3 w3.heap.size (.slice Ay (cutL (lruL l ⟨q, zv, zd⟩) m).length cy) (cutL (lruL l ⟨q, zv, zd⟩) m)) := Lib.hid (SOwn.mono o3 (by simp) (Nat.le_refl _))
    have HP : Hid (SOwn eInt 3 w2.heap.size w3 w3.heap.size (.slice Au (cutD d (lruL l ⟨q, zv, zd⟩) m).length cu) (cutD d (lruL l ⟨q, zv, zd⟩) m)) := Lib.hid (SOwn.mono p3 (by simp) (Nat.le_refl _))
    have HAP := Lib.hid ap3
    clear hb3 o3 p3 ap3 r0 r1 r2 rf k0 k1 kf P0 P1 P2 N0 N1 L2 M0 M1
    have zQ1 := Q1.lt
    have zQ2 := Q2.lt
    obtain ⟨r0, r1, r2, rf⟩ := Q2.three
    obtain ⟨s0, s1, sf⟩ := Q1.two
    go_wp2
    go_region
    all_goals
      go_wp2
      refine bodyPost_ret (v := .tuple #[.int .i64 zv, .agg #[.slice Ay (cutL (lruL l ⟨q, zv, zd⟩) m).length cy, .int .i64 m], .slice Au (cutD d (lruL l ⟨q, zv, zd⟩) m).length cu]) (by simp [results, Try.results72, go_sem, s0, s1, zQ1]; done) rfl ⟨_, _, rfl, ?_, ?_, HAP.out, (by repeat (first | with_reducible exact W3.out | with_reducible exact Below.refl _ _ | with_reducible refine below_drewN ?_ _ | with_reducible refine Below.drew ?_ | with_reducible refine Below.alloc ?_ ?_ _ | with_reducible refine Below.setCell ?_ ?_ _ | (with_reducible refine Below.next ?_ (by assumption)) | ((with_reducible refine Below.far' (by assumption) ?_ ?_ ?_); (focus (first | omega | (simp; omega) | (simp; done))); (focus (first | omega | (simp; omega) | (simp; done)))) | omega | (focus (simp; omega)) | (focus (simp; done))))⟩
      · exact SOwn.mono (B := w2.heap.size) (C := w3.heap.size) (by repeat (first | with_reducible exact HO.out | with_reducible refine SOwn.drew ?_ | with_reducible refine SOwn.drewN ?_ _ | with_reducible refine SOwn.alloc ?_ _ | (with_reducible refine SOwn.below ?_ (by assumption)) | ((with_reducible refine SOwn.other ?_ ?_ _); rotate_left; (focus (first | omega | (simp; omega) | (simp; done)))))) (by omega) (by first | omega | (focus (simp; omega)) | (focus (simp; done)))
      · exact SOwn.mono (B := w2.heap.size) (C := w3.heap.size) (by repeat (first | with_reducible exact HP.out | with_reducible refine SOwn.drew ?_ | with_reducible refine SOwn.drewN ?_ _ | with_reducible refine SOwn.alloc ?_ _ | (with_reducible refine SOwn.below ?_ (by assumption)) | ((with_reducible refine SOwn.other ?_ ?_ _); rotate_left; (focus (first | omega | (simp; omega) | (simp; done)))))) (by omega) (by first | omega | (focus (simp; omega)) | (focus (simp; done)))
  · have hzi := HZ.out
    rw [lineFor_miss (by rw [← HIX.out]; omega) hq] at hzi
    injection hzi with _ e2 e3
    rw [← e2, ← e3] at P2
    have E2 := Lib.hid e2
    have E3 := Lib.hid e3
    clear hle e2 e3
    obtain ⟨r0, r1, r2, rf⟩ := P2.three
    go_wp2_with fail
    refine (implUse_c _ _ l m d ⟨q, zv, zd⟩ _ (HY.out.below (by repeat (first | with_reducible exact W2.out | with_reducible exact Below.refl _ _ | with_reducible refine below_drewN ?_ _ | with_reducible refine Below.drew ?_ | with_reducible refine Below.alloc ?_ ?_ _ | with_reducible refine Below.setCell ?_ ?_ _ | (with_reducible refine Below.next ?_ (by assumption)) | ((with_reducible refine Below.far' (by assumption) ?_ ?_ ?_); (focus (first | omega | (simp; omega) | (simp; done))); (focus (first | omega | (simp; omega) | (simp; done)))) | omega | (focus (simp; omega)) | (focus (simp; done))))) (HU.out.below (by repeat (first | with_reducible exact W2.out | with_reducible exact Below.refl _ _ | with_reducible refine below_drewN ?_ _ | with_reducible refine Below.drew ?_ | with_reducible refine Below.alloc ?_ ?_ _ | with_reducible refine Below.setCell ?_ ?_ _ | (with_reducible refine Below.next ?_ (by assumption)) | ((with_reducible refine Below.far' (by assumption) ?_ ?_ ?_); (focus (first | omega | (simp; omega) | (simp; done))); (focus (first | omega | (simp; omega) | (simp; done)))) | omega | (focus (simp; omega)) | (focus (simp; done))))) HV.out HQX.out).mono ?_
    rintro e w3 ⟨y3, u3, rfl, o3, p3, ap3, hb3⟩
    obtain ⟨Ay, cy, gy, rfl, -, -⟩ := id o3
    obtain ⟨Au, cu, gu, rfl, -, -⟩ := id p3
    have Q1 := Loc.carryB P1 (fun h => (by repeat (first | with_reducible exact h | with_reducible refine Loc.drew ?_ | with_reducible refine Loc.drewN ?_ _ | with_reducible refine Loc.alloc ?_ _ | (with_reducible refine Loc.below ?_ (by assumption)) | ((with_reducible refine Loc.other' ?_ ?_ _); (focus (first | omega | (simp; omega) | (simp; done)))) | ((with_reducible refine Loc.far' (by assumption) ?_ ?_); (focus (first | omega | (simp; omega) | (simp; done))))))) hb3
    have Q2 := Loc.carryB P2 (fun h => (by repeat (first | with_reducible exact h | with_reducible refine Loc.drew ?_ | with_reducible refine Loc.drewN ?_ _ | with_reducible refine Loc.alloc ?_ _ | (with_reducible refine Loc.below ?_ (by assumption)) | ((with_reducible refine Loc.other' ?_ ?_ _); (focus (first | omega | (simp; omega) | (simp; done)))) | ((with_reducible refine Loc.far' (by assumption) ?_ ?_); (focus (first | omega | (simp; omega) | (simp; done))))))) hb3
    have W3 : Hid (Below w.heap.size w w3) := Lib.hid (Below.next (W := w) (by repeat (first | with_reducible exact W2.out | with_reducible exact Below.refl _ _ | with_reducible refine below_drewN ?_ _ | with_reducible refine Below.drew ?_ | with_reducible refine Below.alloc ?_ ?_ _ | with_reducible refine Below.setCell ?_ ?_ _ | (with_reducible refine Below.next ?_ (by assumption)) | ((with_reducible refine Below.far' (by assumption) ?_ ?_ ?_); (focus (first | omega | (simp; omega) | (simp; done))); (focus (first | omega | (simp; omega) | (simp; done)))) | omega | (focus (simp; omega)) | (focus (simp; done)))) hb3)
    have hz3 := hb3.size
    (try simp at hz3)
    have LC := Loc.newAt w3 [.slice Ay (cutL (lruL l ⟨q, zv, zd⟩) m).length cy, .int .i64 m] 33 (b := w3.heap.size) rfl
    have S1 := Loc.alloc Q1 (.cells #[.slice Ay (cutL (lruL l ⟨q, zv, zd⟩) m).length cy, .int .i64 m] 33)
    have S2 := Loc.alloc Q2 (.cells #[.slice Ay (cutL (lruL l ⟨q, zv, zd⟩) m).length cy, .int .i64 m] 33)
    have HO : Hid (SOwn encLineS tyLineS w2.heap.size w3 w3.heap.size (.slice Ay (cutL (lruL l ⟨q, zv, zd⟩) m).length cy) (cutL (lruL l ⟨q, zv, zd⟩) m)) := Lib.hid (SOwn.mono o3 (by simp) (Nat.le_refl _))
    have HP : Hid (SOwn eInt 3 w2.heap.size w3 w3.heap.size (.slice Au (cutD d (lruL l ⟨q, zv, zd⟩) m).length cu) (cutD d (lruL l ⟨q, zv, zd⟩) m)) := Lib.hid (SOwn.mono p3 (by simp) (Nat.le_refl _))
    have HAP := Lib.hid ap3
    clear hb3 o3 p3 ap3 r0 r1 r2 rf k0 k1 kf P0 P1 P2 N0 N1 L2 M0 M1
    have zQ1 := Q1.lt
    have zQ2 := Q2.lt
    obtain ⟨r0, r1, r2, rf⟩ := Q2.three
    obtain ⟨s0, s1, sf⟩ := Q1.two
    go_wp2
    go_region
    all_goals
      go_wp2
      refine bodyPost_ret (v := .tuple #[.int .i64 zv, .agg #[.slice Ay (cutL (lruL l ⟨q, zv, zd⟩) m).length cy, .int .i64 m], .slice Au (cutD d (lruL l ⟨q, zv, zd⟩) m).length cu]) (by simp [results, Try.results72, go_sem, s0, s1, zQ1]; done) rfl ⟨_, _, rfl, ?_, ?_, HAP.out, (by repeat (first | with_reducible exact W3.out | with_reducible exact Below.refl _ _ | with_reducible refine below_drewN ?_ _ | with_reducible refine Below.drew ?_ | with_reducible refine Below.alloc ?_ ?_ _ | with_reducible refine Below.setCell ?_ ?_ _ | (with_reducible refine Below.next ?_ (by assumption)) | ((with_reducible refine Below.far' (by assumption) ?_ ?_ ?_); (focus (first | omega | (simp; omega) | (simp; done))); (focus (first | omega | (simp; omega) | (simp; done)))) | omega | (focus (simp; omega)) | (focus (simp; done))))⟩
      · exact SOwn.mono (B := w2.heap.size) (C := w3.heap.size) (by repeat (first | with_reducible exact HO.out | with_reducible refine SOwn.drew ?_ | with_reducible refine SOwn.drewN ?_ _ | with_reducible refine SOwn.alloc ?_ _ | (with_reducible refine SOwn.below ?_ (by assumption)) | ((with_reducible refine SOwn.other ?_ ?_ _); rotate_left; (focus (first | omega | (simp; omega) | (simp; done)))))) (by omega) (by first | omega | (focus (simp; omega)) | (focus (simp; done)))
      · exact SOwn.mono (B := w2.heap.size) (C := w3.heap.size) (by repeat (first | with_reducible exact HP.out | with_reducible refine SOwn.drew ?_ | with_reducible refine SOwn.drewN ?_ _ | with_reducible refine SOwn.alloc ?_ _ | (with_reducible refine SOwn.below ?_ (by assumption)) | ((with_reducible refine SOwn.other ?_ ?_ _); rotate_left; (focus (first | omega | (simp; omega) | (simp; done)))))) (by omega) (by first | omega | (focus (simp; omega)) | (focus (simp; done)))
set_option maxHeartbeats 4000000 in
theorem specRead_c (y u : Value) (l : List Ln) (m : Int) (d : List Int) (q : Nat) (w : World) (hy : SRd encLineS w y l) (hu : SRd eInt w u d) (hd : diskB d = true) (hcb : cacheB l m d.length = true) (hq : q < d.length) :
    Calls Try.prog 71 #[.agg #[y, .int .i64 m], u, .int .i64 q] w (MadeVCD (lineFor l d q).val (cutL (lruL l (lineFor l d q)) m) m (cutD d (lruL l (lineFor l d q)) m) w) := by
  obtain ⟨A0, c0, rfl, ra, hc0, -⟩ := id hy
  obtain ⟨B0, d0, rfl, rb, -⟩ := id hu
  have hv := cache_iff.1 hcb
  have HY := Lib.hid hy
  have HU := Lib.hid hu
  have HV := Lib.hid hv
  have L0 := Loc.new w [.slice A0 l.length c0, .int .i64 m] 33
  have L1 := Loc.newAt (w.alloc (.cells #[.slice A0 l.length c0, .int .i64 m] 33)) [.slice none 0 0, .int .i64 0] 33 (b := w.heap.size + 1) (by simp)
  have hll : l.length ≤ 8 := by have := hv.len; have := hv.m1; omega
  have hdl : d.length ≤ 64 := by have := hv.n1; omega
  have HD := Lib.hid hd
  have HCB := Lib.hid hcb
  obtain ⟨z, hz⟩ : ∃ z, z = lineFor l d (q : Int) := ⟨_, rfl⟩
  have HZ := Lib.hid hz
  have hza : z.at_ = q := by rw [hz]; exact lineFor_at
  rw [← hz]
  clear hz hd hcb hv hy hu
  go_enter Try.func71, Try.ntmps71
  go_wp2_with fail
  refine (l12Ok_c _ _ l m d q _ (HY.out.below (by repeat (first | with_reducible exact Below.refl _ _ | with_reducible refine below_drewN ?_ _ | with_reducible refine Below.drew ?_ | with_reducible refine Below.alloc ?_ ?_ _ | with_reducible refine Below.setCell ?_ ?_ _ | omega | (focus (simp; omega)) | (focus (simp; done))))) (HU.out.below (by repeat (first | with_reducible exact Below.refl _ _ | with_reducible refine below_drewN ?_ _ | with_reducible refine Below.drew ?_ | with_reducible refine Below.alloc ?_ ?_ _ | with_reducible refine Below.setCell ?_ ?_ _ | omega | (focus (simp; omega)) | (focus (simp; done))))) HD.out HCB.out hq).mono ?_
  rintro e w1 ⟨rfl, hb1⟩
  have M0 := Loc.carryB L0 (fun h => by ((repeat (first | with_reducible exact h | with_reducible refine Loc.drew ?_ | with_reducible refine Loc.drewN ?_ _ | with_reducible refine Loc.alloc ?_ _)); done)) hb1
  have M1 := Loc.carryB L1 (fun h => by ((repeat (first | with_reducible exact h | with_reducible refine Loc.drew ?_ | with_reducible refine Loc.drewN ?_ _ | with_reducible refine Loc.alloc ?_ _)); done)) hb1
  obtain ⟨k0, k1, kf⟩ := M0.two
  have W1 : Hid (Below w.heap.size w w1) := Lib.hid (Below.next (W := w) (by repeat (first | with_reducible exact Below.refl _ _ | with_reducible refine below_drewN ?_ _ | with_reducible refine Below.drew ?_ | with_reducible refine Below.alloc ?_ ?_ _ | with_reducible refine Below.setCell ?_ ?_ _ | omega | (focus (simp; omega)) | (focus (simp; done)))) hb1)
  have hz1 := hb1.size
  (try simp at hz1)
  clear hb1
  go_wp2_with fail
  refine (l12Find_c _ l m q _ (HY.out.below W1.out) (by omega)).mono ?_
  rintro e w2 ⟨x, ok, rfl, hyes, hno, hb2⟩
  have HYES := Lib.hid hyes
  have HNO := Lib.hid hno
  obtain ⟨xa, xv, xd⟩ := x
  have N0 := Loc.carryB M0 (fun h => by ((repeat (first | with_reducible exact h | with_reducible refine Loc.drew ?_ | with_reducible refine Loc.drewN ?_ _ | with_reducible refine Loc.alloc ?_ _)); done)) hb2
  have N1 := Loc.carryB M1 (fun h => by ((repeat (first | with_reducible exact h | with_reducible refine Loc.drew ?_ | with_reducible refine Loc.drewN ?_ _ | with_reducible refine Loc.alloc ?_ _)); done)) hb2
  have W2 : Hid (Below w.heap.size w w2) := Lib.hid (Below.next (W := w) W1.out hb2)
  have hz2 := hb2.size
  (try simp at hz2)
  have zN0 := N0.lt
  have zN1 := N1.lt
  obtain ⟨b, off, rfl, hbl, hcd⟩ := Rd.int (rb.below W2.out) hq
  have hbw0 : b < w.heap.size := rb.lt (by omega) rfl
  have hne0 : b ≠ w2.heap.size := by omega
  have P2 := Loc.newAt w2 [.int .i64 xa, .int .i64 xv, .bool xd] 95 (b := w2.heap.size) rfl
  have P0 := Loc.alloc N0 (.cells #[.int .i64 xa, .int .i64 xv, .bool xd] 95)
  have P1 := Loc.alloc N1 (.cells #[.int .i64 xa, .int .i64 xv, .bool xd] 95)
  have WL := Lib.hid (Below.alloc W2.out (by omega) (.cells #[.int .i64 xa, .int .i64 xv, .bool xd] 95))
  have HQX : Hid (0 ≤ (q : Int) ∧ (q : Int) < d.length) := Lib.hid ⟨by omega, by omega⟩
  obtain ⟨za, zv, zd⟩ := z
  simp only at hza
  subst hza
  clear hb2 k0 k1 kf hyes hno
  obtain ⟨k0, k1, kf⟩ := N0.two
  have zP0 := P0.lt
  have zP1 := P1.lt
  have zP2 := P2.lt
  cases ok
  · have hzi := HZ.out
    rw [lineFor_miss (HNO.out rfl) hq] at hzi
    injection hzi with _ e2 e3
    have E2 := Lib.hid e2
    have E3 := Lib.hid e3
    rw [← e2] at hcd
    clear e2
    subst e3
    go_wp2_with fail
    refine (specUse_c _ _ l m d ⟨q, zv, false⟩ _ (HY.out.below (by repeat (first | with_reducible exact W2.out | with_reducible exact Below.refl _ _ | with_reducible refine below_drewN ?_ _ | with_reducible refine Below.drew ?_ | with_reducible refine Below.alloc ?_ ?_ _ | with_reducible refine Below.setCell ?_ ?_ _ | (with_reducible refine Below.next ?_ (by assumption)) | ((with_reducible refine Below.far' (by assumption) ?_ ?_ ?_); (focus (first | omega | (simp; omega) | (simp; done))); (focus (first | omega | (simp; omega) | (simp; done)))) | omega | (focus (simp; omega)) | (focus (simp; done))))) (HU.out.below (by repeat (first | with_reducible exact W2.out | with_reducible exact Below.refl _ _ | with_reducible refine below_drewN ?_ _ | with_reducible refine Below.drew ?_ | with_reducible refine Below.alloc ?_ ?_ _ | with_reducible refine Below.setCell ?_ ?_ _ | (with_reducible refine Below.next ?_ (by assumption)) | ((with_reducible refine Below.far' (by assumption) ?_ ?_ ?_); (focus (first | omega | (simp; omega) | (simp; done))); (focus (first | omega | (simp; omega) | (simp; done)))) | omega | (focus (simp; omega)) | (focus (simp; done))))) HV.out HQX.out).mono ?_
    have P2' := Loc.newAt w2 [.int .i64 q, .int .i64 zv, .bool false] 95 (b := w2.heap.size) rfl
    rintro e w3 ⟨y3, u3, rfl, o3, p3, ap3, hb3⟩
    obtain ⟨Ay, cy, gy, rfl, -, -⟩ := id o3
    obtain ⟨Au, cu, gu, rfl, -, -⟩ := id p3
    have Q1 := Loc.carryB N1 (fun h => (by repeat (first | with_reducible exact h | with_reducible refine Loc.drew ?_ | with_reducible refine Loc.drewN ?_ _ | with_reducible refine Loc.alloc ?_ _ | (with_reducible refine Loc.below ?_ (by assumption)) | ((with_reducible refine Loc.other' ?_ ?_ _); (focus (first | omega | (simp; omega) | (simp; done)))) | ((with_reducible refine Loc.far' (by assumption) ?_ ?_); (focus (first | omega | (simp; omega) | (simp; done))))))) hb3
    have Q2 := Loc.carryB P2' (fun h => (by repeat (first | with_reducible exact h | with_reducible refine Loc.drew ?_ | with_reducible refine Loc.drewN ?_ _ | with_reducible refine Loc.alloc ?_ _ | (with_reducible refine Loc.below ?_ (by assumption)) | ((with_reducible refine Loc.other' ?_ ?_ _); (focus (first | omega | (simp; omega) | (simp; done)))) | ((with_reducible refine Loc.far' (by assumption) ?_ ?_); (focus (first | omega | (simp; omega) | (simp; done))))))) hb3
    have W3 : Hid (Below w.heap.size w w3) := Lib.hid (Below.next (W := w) (by repeat (first | with_reducible exact W2.out | with_reducible exact Below.refl _ _ | with_reducible refine below_drewN ?_ _ | with_reducible refine Below.drew ?_ | with_reducible refine Below.alloc ?_ ?_ _ | with_reducible refine Below.setCell ?_ ?_ _ | (with_reducible refine Below.next ?_ (by assumption)) | ((with_reducible refine Below.far' (by assumption) ?_ ?_ ?_); (focus (first | omega | (simp; omega) | (simp; done))); (focus (first | omega | (simp; omega) | (simp; done)))) | omega | (focus (simp; omega)) | (focus (simp; done)))) hb3)
    have hz3 := hb3.size
    (try simp at hz3)
    have LC := Loc.newAt w3 [.slice Ay (cutL (lruL l ⟨q, zv, false⟩) m).length cy, .int .i64 m] 33 (b := w3.heap.size) rfl
    have S1 := Loc.alloc Q1 (.cells #[.slice Ay (cutL (lruL l ⟨q, zv, false⟩) m).length cy, .int .i64 m] 33)
    have S2 := Loc.alloc Q2 (.cells #[.slice Ay (cutL (lruL l ⟨q, zv, false⟩) m).length cy, .int .i64 m] 33)
    have HO : Hid (SOwn encLineS tyLineS (w2.heap.size + 1) w3 w3.heap.size (.slice Ay (cutL (lruL l ⟨q, zv, false⟩) m).length cy) (cutL (lruL l ⟨q, zv, false⟩) m)) := Lib.hid (SOwn.mono o3 (by simp) (Nat.le_refl _))
    have HP : Hid (SOwn eInt 3 (w2.heap.size + 1) w3 w3.heap.size (.slice Au (cutD d (lruL l ⟨q, zv, false⟩) m).length cu) (cutD d (lruL l ⟨q, zv, false⟩) m)) := Lib.hid (SOwn.mono p3 (by simp) (Nat.le_refl _))
    have HAP := Lib.hid ap3
    clear hb3 o3 p3 ap3 k0 k1 kf P0 P1 P2 N0 N1 M0 M1
    have zQ1 := Q1.lt
    have zQ2 := Q2.lt
    obtain ⟨r0, r1, r2, rf⟩ := Q2.three
    obtain ⟨s0, s1, sf⟩ := Q1.two
    go_wp2
    go_region
    all_goals
      go_wp2
      refine bodyPost_ret (v := .tuple #[.int .i64 zv, .agg #[.slice Ay (cutL (lruL l ⟨q, zv, false⟩) m).length cy, .int .i64 m], .slice Au (cutD d (lruL l ⟨q, zv, false⟩) m).length cu]) (by simp [results, Try.results71, go_sem, s0, s1, zQ1]; done) rfl ⟨_, _, rfl, ?_, ?_, HAP.out, (by repeat (first | with_reducible exact W3.out | with_reducible exact Below.refl _ _ | with_reducible refine below_drewN ?_ _ | with_reducible refine Below.drew ?_ | with_reducible refine Below.alloc ?_ ?_ _ | with_reducible refine Below.setCell ?_ ?_ _ | (with_reducible refine Below.next ?_ (by assumption)) | ((with_reducible refine Below.far' (by assumption) ?_ ?_ ?_); (focus (first | omega | (simp; omega) | (simp; done))); (focus (first | omega | (simp; omega) | (simp; done)))) | omega | (focus (simp; omega)) | (focus (simp; done))))⟩
      · exact SOwn.mono (B := w2.heap.size + 1) (C := w3.heap.size) (by repeat (first | with_reducible exact HO.out | with_reducible refine SOwn.drew ?_ | with_reducible refine SOwn.drewN ?_ _ | with_reducible refine SOwn.alloc ?_ _ | (with_reducible refine SOwn.below ?_ (by assumption)) | ((with_reducible refine SOwn.other ?_ ?_ _); rotate_left; (focus (first | omega | (simp; omega) | (simp; done)))))) (by omega) (by first | omega | (focus (simp; omega)) | (focus (simp; done)))
      · exact SOwn.mono (B := w2.heap.size + 1) (C := w3.heap.size) (by repeat (first | with_reducible exact HP.out | with_reducible refine SOwn.drew ?_ | with_reducible refine SOwn.drewN ?_ _ | with_reducible refine SOwn.alloc ?_ _ | (with_reducible refine SOwn.below ?_ (by assumption)) | ((with_reducible refine SOwn.other ?_ ?_ _); rotate_left; (focus (first | omega | (simp; omega) | (simp; done)))))) (by omega) (by first | omega | (focus (simp; omega)) | (focus (simp; done)))
  · have hzi := HZ.out
    obtain ⟨i, hi, hil, hxe⟩ := HYES.out rfl
    rw [lineFor_hit hi hil, ← hxe] at hzi
    injection hzi with e1 e2 e3
    subst e1 e2 e3
    clear hi hxe
    go_wp2_with fail
    refine (specUse_c _ _ l m d ⟨q, zv, zd⟩ _ (HY.out.below (by repeat (first | with_reducible exact W2.out | with_reducible exact Below.refl _ _ | with_reducible refine below_drewN ?_ _ | with_reducible refine Below.drew ?_ | with_reducible refine Below.alloc ?_ ?_ _ | with_reducible refine Below.setCell ?_ ?_ _ | (with_reducible refine Below.next ?_ (by assumption)) | ((with_reducible refine Below.far' (by assumption) ?_ ?_ ?_); (focus (first | omega | (simp; omega) | (simp; done))); (focus (first | omega | (simp; omega) | (simp; done)))) | omega | (focus (simp; omega)) | (focus (simp; done))))) (HU.out.below (by repeat (first | with_reducible exact W2.out | with_reducible exact Below.refl _ _ | with_reducible refine below_drewN ?_ _ | with_reducible refine Below.drew ?_ | with_reducible refine Below.alloc ?_ ?_ _ | with_reducible refine Below.setCell ?_ ?_ _ | (with_reducible refine Below.next ?_ (by assumption)) | ((with_reducible refine Below.far' (by assumption) ?_ ?_ ?_); (focus (first | omega | (simp; omega) | (simp; done))); (focus (first | omega | (simp; omega) | (simp; done)))) | omega | (focus (simp; omega)) | (focus (simp; done))))) HV.out HQX.out).mono ?_
    rintro e w3 ⟨y3, u3, rfl, o3, p3, ap3, hb3⟩
    obtain ⟨Ay, cy, gy, rfl, -, -⟩ := id o3
    obtain ⟨Au, cu, gu, rfl, -, -⟩ := id p3
    have Q1 := Loc.carryB N1 (fun h => (by repeat (first | with_reducible exact h | with_reducible refine Loc.drew ?_ | with_reducible refine Loc.drewN ?_ _ | with_reducible refine Loc.alloc ?_ _ | (with_reducible refine Loc.below ?_ (by assumption)) | ((with_reducible refine Loc.other' ?_ ?_ _); (focus (first | omega | (simp; omega) | (simp; done)))) | ((with_reducible refine Loc.far' (by assumption) ?_ ?_); (focus (first | omega | (simp; omega) | (simp; done))))))) hb3
    have Q2 := Loc.carryB P2 (fun h => (by repeat (first | with_reducible exact h | with_reducible refine Loc.drew ?_ | with_reducible refine Loc.drewN ?_ _ | with_reducible refine Loc.alloc ?_ _ | (with_reducible refine Loc.below ?_ (by assumption)) | ((with_reducible refine Loc.other' ?_ ?_ _); (focus (first | omega | (simp; omega) | (simp; done)))) | ((with_reducible refine Loc.far' (by assumption) ?_ ?_); (focus (first | omega | (simp; omega) | (simp; done))))))) hb3
    have W3 : Hid (Below w.heap.size w w3) := Lib.hid (Below.next (W := w) (by repeat (first | with_reducible exact W2.out | with_reducible exact Below.refl _ _ | with_reducible refine below_drewN ?_ _ | with_reducible refine Below.drew ?_ | with_reducible refine Below.alloc ?_ ?_ _ | with_reducible refine Below.setCell ?_ ?_ _ | (with_reducible refine Below.next ?_ (by assumption)) | ((with_reducible refine Below.far' (by assumption) ?_ ?_ ?_); (focus (first | omega | (simp; omega) | (simp; done))); (focus (first | omega | (simp; omega) | (simp; done)))) | omega | (focus (simp; omega)) | (focus (simp; done)))) hb3)
    have hz3 := hb3.size
    (try simp at hz3)
    have LC := Loc.newAt w3 [.slice Ay (cutL (lruL l ⟨q, zv, zd⟩) m).length cy, .int .i64 m] 33 (b := w3.heap.size) rfl
    have S1 := Loc.alloc Q1 (.cells #[.slice Ay (cutL (lruL l ⟨q, zv, zd⟩) m).length cy, .int .i64 m] 33)
    have S2 := Loc.alloc Q2 (.cells #[.slice Ay (cutL (lruL l ⟨q, zv, zd⟩) m).length cy, .int .i64 m] 33)
    have HO : Hid (SOwn encLineS tyLineS (w2.heap.size + 1) w3 w3.heap.size (.slice Ay (cutL (lruL l ⟨q, zv, zd⟩) m).length cy) (cutL (lruL l ⟨q, zv, zd⟩) m)) := Lib.hid (SOwn.mono o3 (by simp) (Nat.le_refl _))
    have HP : Hid (SOwn eInt 3 (w2.heap.size + 1) w3 w3.heap.size (.slice Au (cutD d (lruL l ⟨q, zv, zd⟩) m).length cu) (cutD d (lruL l ⟨q, zv, zd⟩) m)) := Lib.hid (SOwn.mono p3 (by simp) (Nat.le_refl _))
    have HAP := Lib.hid ap3
    clear hb3 o3 p3 ap3 k0 k1 kf P0 P1 P2 N0 N1 M0 M1
    have zQ1 := Q1.lt
    have zQ2 := Q2.lt
    obtain ⟨r0, r1, r2, rf⟩ := Q2.three
    obtain ⟨s0, s1, sf⟩ := Q1.two
    go_wp2
    go_region
    all_goals
      go_wp2
      refine bodyPost_ret (v := .tuple #[.int .i64 zv, .agg #[.slice Ay (cutL (lruL l ⟨q, zv, zd⟩) m).length cy, .int .i64 m], .slice Au (cutD d (lruL l ⟨q, zv, zd⟩) m).length cu]) (by simp [results, Try.results71, go_sem, s0, s1, zQ1]; done) rfl ⟨_, _, rfl, ?_, ?_, HAP.out, (by repeat (first | with_reducible exact W3.out | with_reducible exact Below.refl _ _ | with_reducible refine below_drewN ?_ _ | with_reducible refine Below.drew ?_ | with_reducible refine Below.alloc ?_ ?_ _ | with_reducible refine Below.setCell ?_ ?_ _ | (with_reducible refine Below.next ?_ (by assumption)) | ((with_reducible refine Below.far' (by assumption) ?_ ?_ ?_); (focus (first | omega | (simp; omega) | (simp; done))); (focus (first | omega | (simp; omega) | (simp; done)))) | omega | (focus (simp; omega)) | (focus (simp; done))))⟩
      · exact SOwn.mono (B := w2.heap.size + 1) (C := w3.heap.size) (by repeat (first | with_reducible exact HO.out | with_reducible refine SOwn.drew ?_ | with_reducible refine SOwn.drewN ?_ _ | with_reducible refine SOwn.alloc ?_ _ | (with_reducible refine SOwn.below ?_ (by assumption)) | ((with_reducible refine SOwn.other ?_ ?_ _); rotate_left; (focus (first | omega | (simp; omega) | (simp; done)))))) (by omega) (by first | omega | (focus (simp; omega)) | (focus (simp; done)))
      · exact SOwn.mono (B := w2.heap.size + 1) (C := w3.heap.size) (by repeat (first | with_reducible exact HP.out | with_reducible refine SOwn.drew ?_ | with_reducible refine SOwn.drewN ?_ _ | with_reducible refine SOwn.alloc ?_ _ | (with_reducible refine SOwn.below ?_ (by assumption)) | ((with_reducible refine SOwn.other ?_ ?_ _); rotate_left; (focus (first | omega | (simp; omega) | (simp; done)))))) (by omega) (by first | omega | (focus (simp; omega)) | (focus (simp; done)))
end Go.Proofs.Ytlhbjfjphckifaa
