/-
  Whether the lines of a cache that are not dirty have the disk's values. Conditions: the cache is valid.
-/
import Derived.Test.YtlhbjfjphckifaaBase
import Derived.Test.YtlhbjfjphckifaaNum
import Derived.Test.YtlhbjfjphckifaaInts
import Derived.Test.YtlhbjfjphckifaaApp
import Derived.Test.YtlhbjfjphckifaaIntsW
import Derived.Test.YtlhbjfjphckifaaLib
import Derived.Test.YtlhbjfjphckifaaSpares
import Derived.Test.YtlhbjfjphckifaaOwn
import Derived.Test.YtlhbjfjphckifaaPart
import Derived.Test.YtlhbjfjphckifaaLine
import Derived.Test.YtlhbjfjphckifaaStack
import Derived.Test.YtlhbjfjphckifaaStackM
import Derived.Test.YtlhbjfjphckifaaStackC
import Derived.Test.YtlhbjfjphckifaaStackF
import Derived.Test.YtlhbjfjphckifaaStackP
import Derived.IntWalk
import Derived.BigQuiet
namespace Go.Proofs.Ytlhbjfjphckifaa
open Go.RowKit
theorem clean_no {l : List Ln} {d : List Int} {k : Nat} (hk : k < l.length) (h : cleanAt d l[k] = false) : cleanB l d = false := by
  unfold cleanB
  rw [List.all_eq_false]
  exact ⟨l[k], List.getElem_mem hk, by rw [h]; simp⟩
theorem clean_succ {l : List Ln} {d : List Int} {k : Nat} (hk : k < l.length) (h0 : cleanB (l.take k) d = true) (h : cleanAt d l[k] = true) : cleanB (l.take (k + 1)) d = true := by
  unfold cleanB at h0 ⊢
  rw [List.take_succ_eq_append_getElem hk, List.all_append, h0]
  simp [h]
set_option maxHeartbeats 4000000 in
theorem clean_c (y u : Value) (l : List Ln) (m : Int) (d : List Int) (w : World) (hy : SRd encLineS w y l) (hu : SRd eInt w u d) (hv : CV l m d.length) :
    Calls Try.prog 42 #[.agg #[y, .int .i64 m], u] w fun e w' => e = .returned (.bool (cleanB l d)) ∧ Below w.heap.size w w' := by
  obtain ⟨A0, c0, rfl, ra, hc0, -⟩ := id hy
  obtain ⟨B0, d0, rfl, rb, -⟩ := id hu
  have HV := Lib.hid hv
  have L0 := Loc.new w [.slice A0 l.length c0, .int .i64 m] 33
  have hll : l.length ≤ 8 := by have := hv.len; have := hv.m1; omega
  have hdl : d.length ≤ 64 := by have := hv.n1; omega
  clear hv hy hu
  go_enter Try.func42, Try.ntmps42
  go_wp2
  go_loopw [5] (fun i wr => ∃ k : Nat, k ≤ l.length ∧ i = .int .i64 k ∧ Loc wr w.heap.size [.slice A0 l.length c0, .int .i64 m] ∧ Below w.heap.size w wr ∧ Hid (cleanB (l.take k) d = true)) (fun i _ => l.length - (intOf i).toNat)
  case atStart => exact ⟨0, Nat.zero_le _, rfl, L0, (by repeat (first | with_reducible exact Below.refl _ _ | with_reducible assumption | with_reducible refine below_drewN ?_ _ | with_reducible refine Below.drew ?_ | with_reducible refine Below.alloc ?_ ?_ _ | with_reducible refine Below.setCell ?_ ?_ _ | (with_reducible refine Below.next ?_ (by assumption)) | omega | (focus (simp; omega)) | (focus (simp; done)))), Lib.hid (by simp [cleanB])⟩
  case round =>
    clear L0
    obtain ⟨k, hk, rfl, P0, hbw, HT⟩ := hrel
    have HBW := Lib.hid hbw
    have hzw := hbw.size
    obtain ⟨k0, k1, kf⟩ := P0.two
    have zP0 := P0.lt
    clear hbw
    by_cases hlt : k < l.length
    · obtain ⟨b, off, rfl, hbl, hc, hc2, hc3⟩ := (ra.below HBW.out).rLineS hlt
      have hpr := HV.out.rng _ (List.getElem_mem hlt)
      obtain ⟨p, hp⟩ : ∃ p, p = l[k]'hlt := ⟨_, rfl⟩
      rw [← hp] at hc hc2 hc3 hpr
      have HP := Lib.hid hp
      clear hp
      obtain ⟨pa, pv, pd⟩ := p
      simp only at hc hc2 hc3 hpr
      obtain ⟨p0, p1, p2, p3⟩ := hpr
      obtain ⟨j, rfl⟩ := Int.eq_ofNat_of_zero_le p0
      have hjd : j < d.length := by omega
      obtain ⟨b', off', rfl, hbl', hcd⟩ := Rd.int (rb.below HBW.out) hjd
      have hne1 : b ≠ wr.heap.size := by omega
      have hne2 : b' ≠ wr.heap.size := by omega
      have hca : Hid (cleanAt d ⟨j, pv, pd⟩ = (pd || decide (d[j] = pv))) := Lib.hid (by simp [cleanAt, hjd])
      cases pd
      · cases hee : (d[j] != pv)
        · have HE : Hid (cleanAt d (l[k]'hlt) = true) := Lib.hid (by rw [← HP.out, hca.out]; simpa using hee)
          go_wp2
          go_quiet (fail)
          go_wp2
          go_roundw
          case rel => exact ⟨k + 1, by omega, by go_num, Loc.drewN (Loc.alloc P0 _) _, below_drewN (by repeat (first | with_reducible exact HBW.out | with_reducible exact Below.refl _ _ | with_reducible refine below_drewN ?_ _ | with_reducible refine Below.drew ?_ | with_reducible refine Below.alloc ?_ ?_ _ | with_reducible refine Below.setCell ?_ ?_ _ | (with_reducible refine Below.next ?_ (by assumption)) | ((with_reducible refine Below.far' (by assumption) ?_ ?_ ?_); (focus (first | omega | (simp; omega) | (simp; done))); (focus (first | omega | (simp; omega) | (simp; done)))) | omega | (focus (simp; omega)) | (focus (simp; done)))) _, Lib.hid (clean_succ hlt HT.out HE.out)⟩
          case measure => simp [intOf]; omega
        · have HE : Hid (cleanAt d (l[k]'hlt) = false) := Lib.hid (by rw [← HP.out, hca.out]; simpa using hee)
          go_wp2
          go_quiet (fail)
          go_wp2
          go_ret
          exact ⟨ret_bool (clean_no hlt HE.out).symm, below_drewN (by repeat (first | with_reducible exact HBW.out | with_reducible exact Below.refl _ _ | with_reducible refine below_drewN ?_ _ | with_reducible refine Below.drew ?_ | with_reducible refine Below.alloc ?_ ?_ _ | with_reducible refine Below.setCell ?_ ?_ _ | (with_reducible refine Below.next ?_ (by assumption)) | ((with_reducible refine Below.far' (by assumption) ?_ ?_ ?_); (focus (first | omega | (simp; omega) | (simp; done))); (focus (first | omega | (simp; omega) | (simp; done)))) | omega | (focus (simp; omega)) | (focus (simp; done)))) _⟩
      · have HE : Hid (cleanAt d (l[k]'hlt) = true) := Lib.hid (by rw [← HP.out, hca.out]; rfl)
        go_wp2
        go_quiet (fail)
        go_wp2
        go_roundw
        case rel => exact ⟨k + 1, by omega, by go_num, Loc.drewN (Loc.alloc P0 _) _, below_drewN (by repeat (first | with_reducible exact HBW.out | with_reducible exact Below.refl _ _ | with_reducible refine below_drewN ?_ _ | with_reducible refine Below.drew ?_ | with_reducible refine Below.alloc ?_ ?_ _ | with_reducible refine Below.setCell ?_ ?_ _ | (with_reducible refine Below.next ?_ (by assumption)) | ((with_reducible refine Below.far' (by assumption) ?_ ?_ ?_); (focus (first | omega | (simp; omega) | (simp; done))); (focus (first | omega | (simp; omega) | (simp; done)))) | omega | (focus (simp; omega)) | (focus (simp; done)))) _, Lib.hid (clean_succ hlt HT.out HE.out)⟩
        case measure => simp [intOf]; omega
    · have HE : Hid (cleanB l d = true) := Lib.hid (by have := HT.out; rwa [List.take_of_length_le (by omega)] at this)
      go_wp2
      go_ret
      exact ⟨ret_bool HE.out.symm, HBW.out⟩
end Go.Proofs.Ytlhbjfjphckifaa
