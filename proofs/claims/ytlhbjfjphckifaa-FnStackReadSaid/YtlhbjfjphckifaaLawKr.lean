/-
  FnStackRead: the value is that of PartView; the views of all partitions are unchanged, if the lines of the cache that are not dirty have the values of the disk. No condition.
-/
import Derived.Test.YtlhbjfjphckifaaBase
import Derived.Test.YtlhbjfjphckifaaNum
import Derived.Test.YtlhbjfjphckifaaInts
import Derived.Test.YtlhbjfjphckifaaApp
import Derived.Test.YtlhbjfjphckifaaIntsW
import Derived.Test.YtlhbjfjphckifaaLib
import Derived.Test.YtlhbjfjphckifaaSpares
import Derived.Test.YtlhbjfjphckifaaOwn
import Derived.Test.YtlhbjfjphckifaaPart
import Derived.Test.YtlhbjfjphckifaaLine
import Derived.Test.YtlhbjfjphckifaaStack
import Derived.Test.YtlhbjfjphckifaaStackM
import Derived.Test.YtlhbjfjphckifaaStackC
import Derived.Test.YtlhbjfjphckifaaStackF
import Derived.Test.YtlhbjfjphckifaaStackS
import Derived.Test.YtlhbjfjphckifaaStackP
import Derived.Test.YtlhbjfjphckifaaStackU
import Derived.Test.YtlhbjfjphckifaaStackU2
import Derived.Test.YtlhbjfjphckifaaStackR
import Derived.Test.YtlhbjfjphckifaaStackD
import Derived.Test.YtlhbjfjphckifaaStackW
import Derived.Test.YtlhbjfjphckifaaStackX
import Derived.Test.YtlhbjfjphckifaaStackY
import Derived.Test.YtlhbjfjphckifaaStackCp
import Derived.Test.YtlhbjfjphckifaaStackS2
import Derived.Test.YtlhbjfjphckifaaStackV
import Derived.Test.YtlhbjfjphckifaaStackQ
import Derived.Test.YtlhbjfjphckifaaCleanS
import Derived.Test.YtlhbjfjphckifaaSameSt
import Derived.Test.YtlhbjfjphckifaaDraw
import Derived.Test.YtlhbjfjphckifaaDrawK
import Derived.Test.YtlhbjfjphckifaaDrawD
import Derived.Test.YtlhbjfjphckifaaDrawSt
import Derived.Test.YtlhbjfjphckifaaDrawStk
import Derived.Test.YtlhbjfjphckifaaDrawStl
import Derived.Test.YtlhbjfjphckifaaOpen
import Derived.IntWalk
namespace Go.Proofs.Ytlhbjfjphckifaa
open Go.RowKit Go.ChangeShapes Go.WideShapes Go.ChangeAt Go.Deep Go.Joins
namespace LwKr
set_option maxHeartbeats 8000000 in
theorem walk (A : Option Addr) (c : Nat) (l : List Int) (w : World) (hl : l.length ≤ c) (hm : c ≤ maxLen) (hr : Rd eByte w A l) (hb : ∀ x ∈ l, 0 ≤ x ∧ x ≤ 255) :
    Calls Try.prog 15 #[.slice A l.length c] w fun e w' => e = .returned (.bool true) ∧ Below w.heap.size w w' := by
  have HB := Lib.hid hb
  clear hb
  by_cases hsz : (1048576 : Int) < l.length
  · unfold maxLen at hm
    go_enter Try.func15, Try.ntmps15
    go_wp2
    go_ret
    exact ⟨rfl, (by repeat (first | with_reducible exact Below.refl _ _ | with_reducible assumption | with_reducible refine below_drewN ?_ _ | with_reducible refine Below.drew ?_ | with_reducible refine Below.alloc ?_ ?_ _ | with_reducible refine Below.setCell ?_ ?_ _ | (with_reducible refine Below.next ?_ (by assumption)) | omega | (focus (simp; omega)) | (focus (simp; done))))⟩
  go_enter Try.func15, Try.ntmps15
  go_wp2_with fail
  refine (drawStr_any A c l _ hl hm hr HB.out).mono ?_
  rintro e w1 ⟨y0, y1, y2, y3, t, n, a, rfl, ⟨n0, n1⟩, ⟨a0, a1⟩, hown, hs60, hcnt, hb1⟩
  obtain ⟨A0, c0, A1, c1, A2, c2, e0, e1, e2, e3⟩ := id hown.rd.mst
  subst e0 e1 e2 e3
  have HCNT := Lib.hid hcnt
  have hz1 := hb1.size
  have HB1 := Lib.hid hb1
  have HS1 := Lib.hid (StackOwn.rd hown)
  have hszs : Hid (sizeStack t ≤ 1099511627776) := Lib.hid (by omega)
  have hs6 := hs60
  unfold sizeStack at hs6
  have LS := Loc.newAt w1 [.slice A0 t.dsk.length c0, .slice A1 t.prt.length c1, .slice A2 t.lns.length c2, .int .i64 t.mst] 35 (b := w1.heap.size) rfl
  clear hb1 hown hcnt hsz
  obtain ⟨x, hx⟩ : ∃ x, x = readS t n a := ⟨_, rfl⟩
  obtain ⟨v, hv⟩ : ∃ v, v = readV t n a := ⟨_, rfl⟩
  have HX := Lib.hid hx
  have HVV := Lib.hid hv
  have hxs := readS_size t n a
  rw [← hx] at hxs
  have hxsz : Hid (sizeStack x ≤ 1099511627776) := Lib.hid (by omega)
  have hxs6 := hxs
  unfold sizeStack at hxs6
  clear hx hv
  go_wp2_with fail
  refine (implRd_c _ _ _ _ t n a _ (StackRd.below HS1.out (by repeat (first | with_reducible exact Below.refl _ _ | with_reducible refine below_drewN ?_ _ | with_reducible refine Below.drew ?_ | with_reducible refine Below.alloc ?_ ?_ _ | with_reducible refine Below.setCell ?_ ?_ _ | omega | (focus (simp; omega)) | (focus (simp; done))))) hszs.out).mono ?_
  rw [← HVV.out, ← HX.out]
  rintro e w2 ⟨q0, q1, q2, q3, rfl, O2, hb2⟩
  obtain ⟨B0, d0, B1, d1, B2, d2, e0, e1, e2, e3⟩ := id O2.rd.mst
  subst e0 e1 e2 e3
  have LS2 := Loc.carryB LS (fun h => by ((repeat (first | with_reducible exact h | with_reducible refine Loc.drew ?_ | with_reducible refine Loc.drewN ?_ _ | with_reducible refine Loc.alloc ?_ _)); done)) hb2
  have zS2 := LS2.lt
  have HB2 : Hid (Below w.heap.size w w2) := Lib.hid (Below.next (W := w) (by repeat (first | with_reducible exact HB1.out | with_reducible exact Below.refl _ _ | with_reducible refine below_drewN ?_ _ | with_reducible refine Below.drew ?_ | with_reducible refine Below.alloc ?_ ?_ _ | with_reducible refine Below.setCell ?_ ?_ _ | (with_reducible refine Below.next ?_ (by assumption)) | ((with_reducible refine Below.far' (by assumption) ?_ ?_ ?_); (focus (first | omega | (simp; omega) | (simp; done))); (focus (first | omega | (simp; omega) | (simp; done)))) | omega | (focus (simp; omega)) | (focus (simp; done)))) hb2)
  have HS2 := Lib.hid (StackRd.below HS1.out (Below.next (by repeat (first | with_reducible exact Below.refl _ _ | with_reducible refine below_drewN ?_ _ | with_reducible refine Below.drew ?_ | with_reducible refine Below.alloc ?_ ?_ _ | with_reducible refine Below.setCell ?_ ?_ _ | omega | (focus (simp; omega)) | (focus (simp; done)))) hb2))
  have hz2 := hb2.size
  (try simp at hz2)
  have HX2 := Lib.hid (StackOwn.rd O2)
  have LX2 := Loc.newAt w2 [.slice B0 x.dsk.length d0, .slice B1 x.prt.length d1, .slice B2 x.lns.length d2, .int .i64 x.mst] 35 (b := w2.heap.size) rfl
  obtain ⟨s0, s1, s2, s3, sf⟩ := LS2.four
  clear hb2 O2 LS
  go_wp2_with fail
  refine (specRd_c _ _ _ _ t n a _ (StackRd.below HS2.out (by repeat (first | with_reducible exact Below.refl _ _ | with_reducible refine below_drewN ?_ _ | with_reducible refine Below.drew ?_ | with_reducible refine Below.alloc ?_ ?_ _ | with_reducible refine Below.setCell ?_ ?_ _ | omega | (focus (simp; omega)) | (focus (simp; done))))) hszs.out).mono ?_
  rw [← HVV.out, ← HX.out]
  rintro e w3 ⟨p0, p1, p2, p3, rfl, O3, hb3⟩
  obtain ⟨P0, g0, P1, g1, P2, g2, f0, f1, f2, f3⟩ := id O3.rd.mst
  subst f0 f1 f2 f3
  have H3 := Lib.hid (StackOwn.rd O3)
  clear s0 s1 s2 s3 sf O3
  have LS3 := Loc.carryB LS2 (fun h => by ((repeat (first | with_reducible exact h | with_reducible refine Loc.drew ?_ | with_reducible refine Loc.drewN ?_ _ | with_reducible refine Loc.alloc ?_ _)); done)) hb3; obtain ⟨s0_3, s1_3, s2_3, s3_3, sf_3⟩ := LS3.four; have zS_3 := LS3.lt; have LX3 := Loc.carryB LX2 (fun h => by ((repeat (first | with_reducible exact h | with_reducible refine Loc.drew ?_ | with_reducible refine Loc.drewN ?_ _ | with_reducible refine Loc.alloc ?_ _)); done)) hb3; obtain ⟨r0_3, r1_3, r2_3, r3_3, rf_3⟩ := LX3.four; have zX_3 := LX3.lt; have HB3 : Hid (Below w.heap.size w w3) := Lib.hid (Below.next (W := w) (by repeat (first | with_reducible exact HB2.out | with_reducible exact Below.refl _ _ | with_reducible refine below_drewN ?_ _ | with_reducible refine Below.drew ?_ | with_reducible refine Below.alloc ?_ ?_ _ | with_reducible refine Below.setCell ?_ ?_ _ | (with_reducible refine Below.next ?_ (by assumption)) | ((with_reducible refine Below.far' (by assumption) ?_ ?_ ?_); (focus (first | omega | (simp; omega) | (simp; done))); (focus (first | omega | (simp; omega) | (simp; done)))) | omega | (focus (simp; omega)) | (focus (simp; done)))) hb3); have HS3 := Lib.hid (StackRd.below HS2.out (Below.next (by repeat (first | with_reducible exact Below.refl _ _ | with_reducible refine below_drewN ?_ _ | with_reducible refine Below.drew ?_ | with_reducible refine Below.alloc ?_ ?_ _ | with_reducible refine Below.setCell ?_ ?_ _ | omega | (focus (simp; omega)) | (focus (simp; done)))) hb3)); have HX3 := Lib.hid (StackRd.below HX2.out (Below.next (by repeat (first | with_reducible exact Below.refl _ _ | with_reducible refine below_drewN ?_ _ | with_reducible refine Below.drew ?_ | with_reducible refine Below.alloc ?_ ?_ _ | with_reducible refine Below.setCell ?_ ?_ _ | omega | (focus (simp; omega)) | (focus (simp; done)))) hb3)); have hz3 := hb3.size; (try simp at hz3); clear hb3
  have LY3 := Loc.newAt w3 [.slice P0 x.dsk.length g0, .slice P1 x.prt.length g1, .slice P2 x.lns.length g2, .int .i64 x.mst] 35 (b := w3.heap.size) rfl
  go_wp2_with fail
  refine (sameStack_c _ _ _ _ _ _ _ _ x _ (StackRd.below HX3.out (by repeat (first | with_reducible exact Below.refl _ _ | with_reducible refine below_drewN ?_ _ | with_reducible refine Below.drew ?_ | with_reducible refine Below.alloc ?_ ?_ _ | with_reducible refine Below.setCell ?_ ?_ _ | omega | (focus (simp; omega)) | (focus (simp; done))))) (StackRd.below H3.out (by repeat (first | with_reducible exact Below.refl _ _ | with_reducible refine below_drewN ?_ _ | with_reducible refine Below.drew ?_ | with_reducible refine Below.alloc ?_ ?_ _ | with_reducible refine Below.setCell ?_ ?_ _ | omega | (focus (simp; omega)) | (focus (simp; done))))) hxsz.out).mono ?_
  rintro e w4 ⟨rfl, hb4⟩
  clear s0_3 s1_3 s2_3 s3_3 sf_3 r0_3 r1_3 r2_3 r3_3 rf_3 LY3 H3
  have LS4 := Loc.carryB LS3 (fun h => by ((repeat (first | with_reducible exact h | with_reducible refine Loc.drew ?_ | with_reducible refine Loc.drewN ?_ _ | with_reducible refine Loc.alloc ?_ _)); done)) hb4; obtain ⟨s0_4, s1_4, s2_4, s3_4, sf_4⟩ := LS4.four; have zS_4 := LS4.lt; have LX4 := Loc.carryB LX3 (fun h => by ((repeat (first | with_reducible exact h | with_reducible refine Loc.drew ?_ | with_reducible refine Loc.drewN ?_ _ | with_reducible refine Loc.alloc ?_ _)); done)) hb4; obtain ⟨r0_4, r1_4, r2_4, r3_4, rf_4⟩ := LX4.four; have zX_4 := LX4.lt; have HB4 : Hid (Below w.heap.size w w4) := Lib.hid (Below.next (W := w) (by repeat (first | with_reducible exact HB3.out | with_reducible exact Below.refl _ _ | with_reducible refine below_drewN ?_ _ | with_reducible refine Below.drew ?_ | with_reducible refine Below.alloc ?_ ?_ _ | with_reducible refine Below.setCell ?_ ?_ _ | (with_reducible refine Below.next ?_ (by assumption)) | ((with_reducible refine Below.far' (by assumption) ?_ ?_ ?_); (focus (first | omega | (simp; omega) | (simp; done))); (focus (first | omega | (simp; omega) | (simp; done)))) | omega | (focus (simp; omega)) | (focus (simp; done)))) hb4); have HS4 := Lib.hid (StackRd.below HS3.out (Below.next (by repeat (first | with_reducible exact Below.refl _ _ | with_reducible refine below_drewN ?_ _ | with_reducible refine Below.drew ?_ | with_reducible refine Below.alloc ?_ ?_ _ | with_reducible refine Below.setCell ?_ ?_ _ | omega | (focus (simp; omega)) | (focus (simp; done)))) hb4)); have HX4 := Lib.hid (StackRd.below HX3.out (Below.next (by repeat (first | with_reducible exact Below.refl _ _ | with_reducible refine below_drewN ?_ _ | with_reducible refine Below.drew ?_ | with_reducible refine Below.alloc ?_ ?_ _ | with_reducible refine Below.setCell ?_ ?_ _ | omega | (focus (simp; omega)) | (focus (simp; done)))) hb4)); have hz4 := hb4.size; (try simp at hz4); clear hb4
  clear LS2 LX2 LS3 LX3 HS1 HS2 HS3 HX2 HX3 HB1 HB2 HB3
  by_cases hneg : v < 0
  · have hm1 : v = -1 := by rw [HVV.out]; exact read_neg t n a (by rw [← HVV.out]; exact hneg)
    have hm1' : (v == -1) = true := by rw [hm1]; rfl
    clear hm1
    go_wp2_with (go_at_call 31; refine (alive_any _).mono ?_; rintro e w6 ⟨rfl, hb6⟩)
    go_ret
    exact ⟨rfl, Below.next (W := w) HB4.out hb6⟩
  · obtain ⟨hst, kn, i, rfl, rfl, hkn, hi, hvi⟩ := read_pos (t := t) (p := n) (a := a) (by rw [← HVV.out]; exact hneg)
    obtain ⟨hxv, hxw⟩ := read_valid (t := t) (p := (kn : Int)) (a := (i : Int)) (by rw [← HVV.out]; exact hneg)
    rw [← HX.out] at hxv hxw
    rw [← HVV.out] at hvi
    have HXV := Lib.hid hxv
    have HXW := Lib.hid hxw
    have HCV := Lib.hid (cache_iff.1 (stack_true.1 hst).2.2)
    have hpv := fun p => partV_size t p
    have HPZ := Lib.hid hpv
    obtain ⟨vw, hvw⟩ : ∃ vw, vw = partV t (kn : Int) := ⟨_, rfl⟩
    have HVW := Lib.hid hvw
    have hvl : vw.length ≤ 1000 := by have := HPZ.out kn; rw [← hvw] at this; omega
    have hi' : i < vw.length := by rw [hvw]; exact hi
    have hvi' : vw[i] = v := by rw [← hvi]; simp only [hvw]
    clear hxv hxw hst hpv hvw hvi hi
    go_wp2_with fail
    refine (implPV_c _ _ _ _ t kn _ (StackRd.below HS4.out (by repeat (first | with_reducible exact Below.refl _ _ | with_reducible refine below_drewN ?_ _ | with_reducible refine Below.drew ?_ | with_reducible refine Below.alloc ?_ ?_ _ | with_reducible refine Below.setCell ?_ ?_ _ | omega | (focus (simp; omega)) | (focus (simp; done))))) hszs.out).mono ?_
    rw [← HVW.out]
    rintro e w5 ⟨u5, rfl, o5, hb5⟩
    obtain ⟨A5, c5, gg5, rfl, -, -⟩ := id o5
    clear s0_4 s1_4 s2_4 s3_4 sf_4 r0_4 r1_4 r2_4 r3_4 rf_4
    have LS5 := Loc.carryB LS4 (fun h => by ((repeat (first | with_reducible exact h | with_reducible refine Loc.drew ?_ | with_reducible refine Loc.drewN ?_ _ | with_reducible refine Loc.alloc ?_ _)); done)) hb5; obtain ⟨s0_5, s1_5, s2_5, s3_5, sf_5⟩ := LS5.four; have zS_5 := LS5.lt; have LX5 := Loc.carryB LX4 (fun h => by ((repeat (first | with_reducible exact h | with_reducible refine Loc.drew ?_ | with_reducible refine Loc.drewN ?_ _ | with_reducible refine Loc.alloc ?_ _)); done)) hb5; obtain ⟨r0_5, r1_5, r2_5, r3_5, rf_5⟩ := LX5.four; have zX_5 := LX5.lt; have HB5 : Hid (Below w.heap.size w w5) := Lib.hid (Below.next (W := w) (by repeat (first | with_reducible exact HB4.out | with_reducible exact Below.refl _ _ | with_reducible refine below_drewN ?_ _ | with_reducible refine Below.drew ?_ | with_reducible refine Below.alloc ?_ ?_ _ | with_reducible refine Below.setCell ?_ ?_ _ | (with_reducible refine Below.next ?_ (by assumption)) | ((with_reducible refine Below.far' (by assumption) ?_ ?_ ?_); (focus (first | omega | (simp; omega) | (simp; done))); (focus (first | omega | (simp; omega) | (simp; done)))) | omega | (focus (simp; omega)) | (focus (simp; done)))) hb5); have HS5 := Lib.hid (StackRd.below HS4.out (Below.next (by repeat (first | with_reducible exact Below.refl _ _ | with_reducible refine below_drewN ?_ _ | with_reducible refine Below.drew ?_ | with_reducible refine Below.alloc ?_ ?_ _ | with_reducible refine Below.setCell ?_ ?_ _ | omega | (focus (simp; omega)) | (focus (simp; done)))) hb5)); have HX5 := Lib.hid (StackRd.below HX4.out (Below.next (by repeat (first | with_reducible exact Below.refl _ _ | with_reducible refine below_drewN ?_ _ | with_reducible refine Below.drew ?_ | with_reducible refine Below.alloc ?_ ?_ _ | with_reducible refine Below.setCell ?_ ?_ _ | omega | (focus (simp; omega)) | (focus (simp; done)))) hb5)); have hz5 := hb5.size; (try simp at hz5); clear hb5
    have hcell : ∃ b off, A5 = some ⟨b, off, none⟩ ∧ b < w5.heap.size ∧ w5.cell? ⟨b, off + i, none⟩ = some (.int .i64 v) := by
      obtain ⟨A', c', he, hr', _⟩ := SOwn.rd o5
      cases he
      obtain ⟨b, off, h1, h2, h3⟩ := Rd.int hr' hi'
      exact ⟨b, off, h1, h2, by rw [h3, hvi']⟩
    obtain ⟨b, off, rfl, hbl, hcc⟩ := hcell
    have hge : ¬ vw.length ≤ i := by omega
    clear o5 hvi' HB4 HS4 HX4 LS4 LX4
    go_wp2
    go_loopw [11] (fun i wr => ∃ k : Nat, k ≤ t.prt.length ∧ i = .int .i64 k ∧ Loc wr w1.heap.size [.slice A0 t.dsk.length c0, .slice A1 t.prt.length c1, .slice A2 t.lns.length c2, .int .i64 t.mst] ∧ Loc wr w2.heap.size [.slice B0 x.dsk.length d0, .slice B1 x.prt.length d1, .slice B2 x.lns.length d2, .int .i64 x.mst] ∧ Below w.heap.size w wr ∧ StackRd wr [.slice A0 t.dsk.length c0, .slice A1 t.prt.length c1, .slice A2 t.lns.length c2, .int .i64 t.mst] t ∧ StackRd wr [.slice B0 x.dsk.length d0, .slice B1 x.prt.length d1, .slice B2 x.lns.length d2, .int .i64 x.mst] x) (fun i _ => t.prt.length - (intOf i).toNat)
    case atStart => exact ⟨0, Nat.zero_le _, rfl, LS5, LX5, HB5.out, HS5.out, HX5.out⟩
    case round =>
      clear LS5 LX5 HB5 HS5 HX5 s0_5 s1_5 s2_5 s3_5 sf_5 r0_5 r1_5 r2_5 r3_5 rf_5 hcc
      obtain ⟨k, hk, rfl, LS6, LX6, hbw, hsr, hxr⟩ := hrel
      obtain ⟨w6, hwa⟩ : ∃ x, x = wr := ⟨_, rfl⟩
      subst hwa
      have HB6 := Lib.hid hbw
      have HS6 := Lib.hid hsr
      have HX6 := Lib.hid hxr
      have zS := LS6.lt
      have zX := LX6.lt
      obtain ⟨s0, s1, s2, s3, sf⟩ := LS6.four
      obtain ⟨r0, r1, r2, r3, rf⟩ := LX6.four
      clear hbw hsr hxr
      by_cases hlt : k < t.prt.length
      · go_wp2_with fail
        refine (clean_c _ _ t.lns t.mst t.dsk _ (SRd.below HS6.out.parts.2.2 (by repeat (first | with_reducible exact Below.refl _ _ | with_reducible refine below_drewN ?_ _ | with_reducible refine Below.drew ?_ | with_reducible refine Below.alloc ?_ ?_ _ | with_reducible refine Below.setCell ?_ ?_ _ | omega | (focus (simp; omega)) | (focus (simp; done))))) (SRd.below HS6.out.parts.1 (by repeat (first | with_reducible exact Below.refl _ _ | with_reducible refine below_drewN ?_ _ | with_reducible refine Below.drew ?_ | with_reducible refine Below.alloc ?_ ?_ _ | with_reducible refine Below.setCell ?_ ?_ _ | omega | (focus (simp; omega)) | (focus (simp; done))))) HCV.out).mono ?_
        rintro e w7 ⟨rfl, hb7⟩
        have HXW' := HXW
        obtain ⟨cl, hcl⟩ : ∃ cl, cl = cleanB t.lns t.dsk := ⟨_, rfl⟩
        rw [← hcl] at HXW' ⊢
        clear hcl s0 s1 s2 s3 sf r0 r1 r2 r3 rf
        have LS7 := Loc.carryB LS6 (fun h => by ((repeat (first | with_reducible exact h | with_reducible refine Loc.drew ?_ | with_reducible refine Loc.drewN ?_ _ | with_reducible refine Loc.alloc ?_ _)); done)) hb7; obtain ⟨s0_7, s1_7, s2_7, s3_7, sf_7⟩ := LS7.four; have zS_7 := LS7.lt; have LX7 := Loc.carryB LX6 (fun h => by ((repeat (first | with_reducible exact h | with_reducible refine Loc.drew ?_ | with_reducible refine Loc.drewN ?_ _ | with_reducible refine Loc.alloc ?_ _)); done)) hb7; obtain ⟨r0_7, r1_7, r2_7, r3_7, rf_7⟩ := LX7.four; have zX_7 := LX7.lt; have HB7 : Hid (Below w.heap.size w w7) := Lib.hid (Below.next (W := w) (by repeat (first | with_reducible exact HB6.out | with_reducible exact Below.refl _ _ | with_reducible refine below_drewN ?_ _ | with_reducible refine Below.drew ?_ | with_reducible refine Below.alloc ?_ ?_ _ | with_reducible refine Below.setCell ?_ ?_ _ | (with_reducible refine Below.next ?_ (by assumption)) | ((with_reducible refine Below.far' (by assumption) ?_ ?_ ?_); (focus (first | omega | (simp; omega) | (simp; done))); (focus (first | omega | (simp; omega) | (simp; done)))) | omega | (focus (simp; omega)) | (focus (simp; done)))) hb7); have HS7 := Lib.hid (StackRd.below HS6.out (Below.next (by repeat (first | with_reducible exact Below.refl _ _ | with_reducible refine below_drewN ?_ _ | with_reducible refine Below.drew ?_ | with_reducible refine Below.alloc ?_ ?_ _ | with_reducible refine Below.setCell ?_ ?_ _ | omega | (focus (simp; omega)) | (focus (simp; done)))) hb7)); have HX7 := Lib.hid (StackRd.below HX6.out (Below.next (by repeat (first | with_reducible exact Below.refl _ _ | with_reducible refine below_drewN ?_ _ | with_reducible refine Below.drew ?_ | with_reducible refine Below.alloc ?_ ?_ _ | with_reducible refine Below.setCell ?_ ?_ _ | omega | (focus (simp; omega)) | (focus (simp; done)))) hb7)); have hz7 := hb7.size; (try simp at hz7); clear hb7
        cases cl
        · go_wp2_with fail
          refine (implStack_c _ _ _ _ x _ (StackRd.below HX7.out (by repeat (first | with_reducible exact Below.refl _ _ | with_reducible refine below_drewN ?_ _ | with_reducible refine Below.drew ?_ | with_reducible refine Below.alloc ?_ ?_ _ | with_reducible refine Below.setCell ?_ ?_ _ | omega | (focus (simp; omega)) | (focus (simp; done))))) hxsz.out).mono ?_
          rw [HXV.out]
          rintro e w20 ⟨rfl, hb20⟩
          go_wp2
          go_ret
          exact ⟨rfl, Below.next (W := w) (by repeat (first | with_reducible exact HB7.out | with_reducible exact Below.refl _ _ | with_reducible refine below_drewN ?_ _ | with_reducible refine Below.drew ?_ | with_reducible refine Below.alloc ?_ ?_ _ | with_reducible refine Below.setCell ?_ ?_ _ | (with_reducible refine Below.next ?_ (by assumption)) | ((with_reducible refine Below.far' (by assumption) ?_ ?_ ?_); (focus (first | omega | (simp; omega) | (simp; done))); (focus (first | omega | (simp; omega) | (simp; done)))) | omega | (focus (simp; omega)) | (focus (simp; done)))) hb20⟩
        · obtain ⟨vk, hvk⟩ : ∃ vk, vk = partV t k := ⟨_, rfl⟩
          have HVK := Lib.hid hvk
          have HXE : Hid (partV x k = vk) := Lib.hid (by rw [HXW'.out rfl k hlt, hvk])
          have hvkl : vk.length ≤ 1000 := by have := HPZ.out k; rw [← hvk] at this; omega
          clear hvk
          go_wp2_with fail
          go_region_held3 (fun w' => w'.cell? ⟨w1.heap.size, 0, none⟩ = some (.slice A0 t.dsk.length c0) ∧ w'.cell? ⟨w1.heap.size, 1, none⟩ = some (.slice A1 t.prt.length c1) ∧ w'.cell? ⟨w1.heap.size, 2, none⟩ = some (.slice A2 t.lns.length c2) ∧ w'.cell? ⟨w1.heap.size, 3, none⟩ = some (.int .i64 t.mst) ∧ w'.cell? ⟨w2.heap.size, 0, none⟩ = some (.slice B0 x.dsk.length d0) ∧ w'.cell? ⟨w2.heap.size, 1, none⟩ = some (.slice B1 x.prt.length d1) ∧ w'.cell? ⟨w2.heap.size, 2, none⟩ = some (.slice B2 x.lns.length d2) ∧ w'.cell? ⟨w2.heap.size, 3, none⟩ = some (.int .i64 x.mst)) (first | (with_reducible assumption) | (refine ⟨?_, ?_, ?_, ?_, ?_, ?_, ?_, ?_⟩ <;> with_reducible assumption) | go_keep | (refine ⟨?_, ?_, ?_, ?_, ?_, ?_, ?_, ?_⟩ <;> (simp [go_sem, *]; done))) (first
            | (go_at_call 37; (with_reducible refine (implPV_c (.slice B0 x.dsk.length d0) _ _ _ x k _ (StackRd.below HX7.out (by repeat (first | with_reducible exact Below.refl _ _ | with_reducible refine below_drewN ?_ _ | with_reducible refine Below.drew ?_ | with_reducible refine Below.alloc ?_ ?_ _ | with_reducible refine Below.setCell ?_ ?_ _ | omega | (focus (simp; omega)) | (focus (simp; done))))) hxsz.out).mono ?_); go_must (rw [HXE.out]; rintro e w8 ⟨v8, rfl, o8, hb8⟩; obtain ⟨A8, c8, gg8, rfl, -, -⟩ := id o8; have H8 := Lib.hid (SOwn.rd o8); have LS8 := Loc.carryB LS7 (fun h => by ((repeat (first | with_reducible exact h | with_reducible refine Loc.drew ?_ | with_reducible refine Loc.drewN ?_ _ | with_reducible refine Loc.alloc ?_ _)); done)) hb8; obtain ⟨s0_8, s1_8, s2_8, s3_8, sf_8⟩ := LS8.four; have zS_8 := LS8.lt; have LX8 := Loc.carryB LX7 (fun h => by ((repeat (first | with_reducible exact h | with_reducible refine Loc.drew ?_ | with_reducible refine Loc.drewN ?_ _ | with_reducible refine Loc.alloc ?_ _)); done)) hb8; obtain ⟨r0_8, r1_8, r2_8, r3_8, rf_8⟩ := LX8.four; have zX_8 := LX8.lt; have HB8 : Hid (Below w.heap.size w w8) := Lib.hid (Below.next (W := w) (by repeat (first | with_reducible exact HB7.out | with_reducible exact Below.refl _ _ | with_reducible refine below_drewN ?_ _ | with_reducible refine Below.drew ?_ | with_reducible refine Below.alloc ?_ ?_ _ | with_reducible refine Below.setCell ?_ ?_ _ | (with_reducible refine Below.next ?_ (by assumption)) | ((with_reducible refine Below.far' (by assumption) ?_ ?_ ?_); (focus (first | omega | (simp; omega) | (simp; done))); (focus (first | omega | (simp; omega) | (simp; done)))) | omega | (focus (simp; omega)) | (focus (simp; done)))) hb8); have HS8 := Lib.hid (StackRd.below HS7.out (Below.next (by repeat (first | with_reducible exact Below.refl _ _ | with_reducible refine below_drewN ?_ _ | with_reducible refine Below.drew ?_ | with_reducible refine Below.alloc ?_ ?_ _ | with_reducible refine Below.setCell ?_ ?_ _ | omega | (focus (simp; omega)) | (focus (simp; done)))) hb8)); have HX8 := Lib.hid (StackRd.below HX7.out (Below.next (by repeat (first | with_reducible exact Below.refl _ _ | with_reducible refine below_drewN ?_ _ | with_reducible refine Below.drew ?_ | with_reducible refine Below.alloc ?_ ?_ _ | with_reducible refine Below.setCell ?_ ?_ _ | omega | (focus (simp; omega)) | (focus (simp; done)))) hb8)); have hz8 := hb8.size; (try simp at hz8); clear hb8))
            | (go_at_call 37; (with_reducible refine (implPV_c (.slice A0 t.dsk.length c0) _ _ _ t k _ (StackRd.below HS8.out (by repeat (first | with_reducible exact Below.refl _ _ | with_reducible refine below_drewN ?_ _ | with_reducible refine Below.drew ?_ | with_reducible refine Below.alloc ?_ ?_ _ | with_reducible refine Below.setCell ?_ ?_ _ | omega | (focus (simp; omega)) | (focus (simp; done))))) hszs.out).mono ?_); go_must (rw [← HVK.out]; rintro e w9 ⟨v9, rfl, o9, hb9⟩; obtain ⟨A9, c9, gg9, rfl, -, -⟩ := id o9; have H9 := Lib.hid (SOwn.rd o9); have H89 := Lib.hid (SRd.below H8.out (Below.next (by repeat (first | with_reducible exact Below.refl _ _ | with_reducible refine below_drewN ?_ _ | with_reducible refine Below.drew ?_ | with_reducible refine Below.alloc ?_ ?_ _ | with_reducible refine Below.setCell ?_ ?_ _ | omega | (focus (simp; omega)) | (focus (simp; done)))) hb9)); have LS9 := Loc.carryB LS8 (fun h => by ((repeat (first | with_reducible exact h | with_reducible refine Loc.drew ?_ | with_reducible refine Loc.drewN ?_ _ | with_reducible refine Loc.alloc ?_ _)); done)) hb9; obtain ⟨s0_9, s1_9, s2_9, s3_9, sf_9⟩ := LS9.four; have zS_9 := LS9.lt; have LX9 := Loc.carryB LX8 (fun h => by ((repeat (first | with_reducible exact h | with_reducible refine Loc.drew ?_ | with_reducible refine Loc.drewN ?_ _ | with_reducible refine Loc.alloc ?_ _)); done)) hb9; obtain ⟨r0_9, r1_9, r2_9, r3_9, rf_9⟩ := LX9.four; have zX_9 := LX9.lt; have HB9 : Hid (Below w.heap.size w w9) := Lib.hid (Below.next (W := w) (by repeat (first | with_reducible exact HB8.out | with_reducible exact Below.refl _ _ | with_reducible refine below_drewN ?_ _ | with_reducible refine Below.drew ?_ | with_reducible refine Below.alloc ?_ ?_ _ | with_reducible refine Below.setCell ?_ ?_ _ | (with_reducible refine Below.next ?_ (by assumption)) | ((with_reducible refine Below.far' (by assumption) ?_ ?_ ?_); (focus (first | omega | (simp; omega) | (simp; done))); (focus (first | omega | (simp; omega) | (simp; done)))) | omega | (focus (simp; omega)) | (focus (simp; done)))) hb9); have HS9 := Lib.hid (StackRd.below HS8.out (Below.next (by repeat (first | with_reducible exact Below.refl _ _ | with_reducible refine below_drewN ?_ _ | with_reducible refine Below.drew ?_ | with_reducible refine Below.alloc ?_ ?_ _ | with_reducible refine Below.setCell ?_ ?_ _ | omega | (focus (simp; omega)) | (focus (simp; done)))) hb9)); have HX9 := Lib.hid (StackRd.below HX8.out (Below.next (by repeat (first | with_reducible exact Below.refl _ _ | with_reducible refine below_drewN ?_ _ | with_reducible refine Below.drew ?_ | with_reducible refine Below.alloc ?_ ?_ _ | with_reducible refine Below.setCell ?_ ?_ _ | omega | (focus (simp; omega)) | (focus (simp; done)))) hb9)); have hz9 := hb9.size; (try simp at hz9); clear hb9))
            | (go_at_call 36; (with_reducible refine (sameInts_v (.slice A8 vk.length c8) (.slice A9 vk.length c9) vk vk _ (SRd.below H89.out (by repeat (first | with_reducible exact Below.refl _ _ | with_reducible refine below_drewN ?_ _ | with_reducible refine Below.drew ?_ | with_reducible refine Below.alloc ?_ ?_ _ | with_reducible refine Below.setCell ?_ ?_ _ | omega | (focus (simp; omega)) | (focus (simp; done))))) (SRd.below H9.out (by repeat (first | with_reducible exact Below.refl _ _ | with_reducible refine below_drewN ?_ _ | with_reducible refine Below.drew ?_ | with_reducible refine Below.alloc ?_ ?_ _ | with_reducible refine Below.setCell ?_ ?_ _ | omega | (focus (simp; omega)) | (focus (simp; done))))) (by omega) (by omega)).mono ?_); go_must (rw [dec_reflK]; rintro e w10 ⟨rfl, q10, rfl⟩)))
          go_wp2
          go_roundw
          case rel =>
            exact ⟨k + 1, by omega, by go_num, Loc.drewN LS9 _, Loc.drewN LX9 _, below_drewN HB9.out _, StackRd.below HS9.out (by repeat (first | with_reducible exact Below.refl _ _ | with_reducible refine below_drewN ?_ _ | with_reducible refine Below.drew ?_ | with_reducible refine Below.alloc ?_ ?_ _ | with_reducible refine Below.setCell ?_ ?_ _ | omega | (focus (simp; omega)) | (focus (simp; done)))), StackRd.below HX9.out (by repeat (first | with_reducible exact Below.refl _ _ | with_reducible refine below_drewN ?_ _ | with_reducible refine Below.drew ?_ | with_reducible refine Below.alloc ?_ ?_ _ | with_reducible refine Below.setCell ?_ ?_ _ | omega | (focus (simp; omega)) | (focus (simp; done))))⟩
          case measure => simp [intOf]; omega
      · go_wp2_with fail
        refine (implStack_c _ _ _ _ x _ (StackRd.below HX6.out (by repeat (first | with_reducible exact Below.refl _ _ | with_reducible refine below_drewN ?_ _ | with_reducible refine Below.drew ?_ | with_reducible refine Below.alloc ?_ ?_ _ | with_reducible refine Below.setCell ?_ ?_ _ | omega | (focus (simp; omega)) | (focus (simp; done))))) hxsz.out).mono ?_
        rw [HXV.out]
        rintro e w20 ⟨rfl, hb20⟩
        go_wp2
        go_ret
        exact ⟨rfl, Below.next (W := w) (by repeat (first | with_reducible exact HB6.out | with_reducible exact Below.refl _ _ | with_reducible refine below_drewN ?_ _ | with_reducible refine Below.drew ?_ | with_reducible refine Below.alloc ?_ ?_ _ | with_reducible refine Below.setCell ?_ ?_ _ | (with_reducible refine Below.next ?_ (by assumption)) | ((with_reducible refine Below.far' (by assumption) ?_ ?_ ?_); (focus (first | omega | (simp; omega) | (simp; done))); (focus (first | omega | (simp; omega) | (simp; done)))) | omega | (focus (simp; omega)) | (focus (simp; done)))) hb20⟩
set_option maxRecDepth 100000 in
theorem lifted (os : Os) (started : os.Started) (H : Type) (enc : TypeId × Value → H) :
    ReturnsInHanded {} Try.checked os 15 .any (Rows.fnStackReadSpec.pre6 enc Try.prog Try.f15 Rows.fnStackReadRow.domain false) (Rows.fnStackReadSpec.post enc Try.prog Try.f15 false true false false) := by
  refine returnsInHanded_of_change (C := Try.checked) own_knob started (by kernel_rfl) Try.func15
    (ChangeSpec.witness6 (enc := enc) (C := Try.checked) false ⟨#[], #[.slice none 0 0], []⟩ 8 (by kernel_rfl) (by kernel_rfl) (by kernel_rfl) (by kernel_rfl)) ?_
  intro W base args ds gs before hval0 hW hcnd _
  have hval : ∀ (j : Nat) t v, Try.f15.params[j]? = some t → args[j]? = some v → Value.okWide Try.prog W .any base t v := hval0
  have hW' := hW
  obtain ⟨p, q, hA0, hV, rfl, hfz, hnd⟩ := hW
  have hA : DataW.TrodAll enc Try.prog W 0 (fun _ => true) true Try.f15.params.toList args.toList ds p := hA0
  rw [Try.params15] at hA hval
  obtain ⟨v0, vs0, d0, ds0, p0, q0, hargs, rfl, rfl, h0, r0⟩ := trodAll_cons hA
  obtain ⟨rfl, rfl, rfl⟩ := trodAll_nil r0
  obtain rfl : args = #[v0] := by cases args; simp_all
  obtain ⟨rfl, rfl⟩ := trodVars_none hV
  have k0 := h0
  have lt0 : ∀ x ∈ p0, x.block < W.heap.size := by obtain ⟨m, hm⟩ := k0; exact DataW.trod_lt m _ _ _ hm
  obtain ⟨A0, c0, l0, rfl, hl0, hm0, rd0, by0⟩ := open_bytes Try.underlying46 Try.underlying5 (by kernel_rfl) (hval 0 46 v0 rfl rfl) h0
  clear hA0 hval0
  refine (walk A0 c0 l0 W hl0 hm0 rd0 by0).mono fun e W' ⟨he, bel⟩ => ?_
  subst he
  exact ⟨_, rfl, _, _, _, [], _, [], hW', trodAll_mk1 (shut_bool Try.underlying4 _), (trodAll_cons_mk (Below.trod laid_out (by kernel_rfl) (of_decide_eq_true (by kernel_rfl)) k0 bel lt0) trodAll_mk0), rfl, bel.frame _, fun h => by cases h⟩
theorem over : Rows.fnStackReadRow.holds Try.pinned (OpenSpec.ofChange Rows.fnStackReadSpec) :=
  OpenClaim.holds_of_wide 15 Try.f15 rfl rfl rfl rfl rfl rfl rfl ⟨rfl, rfl, rfl, rfl, rfl⟩ rfl rfl rfl rfl rfl (by kernel_rfl) Try.func15 (by kernel_rfl)
    (of_decide_eq_true (by kernel_rfl)) (by unfold Func.isWrapper; first | (rw [if_pos (by decide +kernel)]; kernel_rfl) | (rw [if_neg (by decide +kernel)]; exact ⟨rfl, rfl⟩))
    (fun os started H enc _ => lifted os started H enc)
theorem proved : Rows.FnStackReadSaid := over
end LwKr
end Go.Proofs.Ytlhbjfjphckifaa
