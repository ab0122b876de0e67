/-
  FnStackCrash: the disk and the partitions are unchanged; the cache has no lines; every value that is seen is that of the disk. No condition.
-/
import Derived.Test.YtlhbjfjphckifaaBase
import Derived.Test.YtlhbjfjphckifaaNum
import Derived.Test.YtlhbjfjphckifaaInts
import Derived.Test.YtlhbjfjphckifaaApp
import Derived.Test.YtlhbjfjphckifaaIntsW
import Derived.Test.YtlhbjfjphckifaaLib
import Derived.Test.YtlhbjfjphckifaaSpares
import Derived.Test.YtlhbjfjphckifaaOwn
import Derived.Test.YtlhbjfjphckifaaPart
import Derived.Test.YtlhbjfjphckifaaLine
import Derived.Test.YtlhbjfjphckifaaStack
import Derived.Test.YtlhbjfjphckifaaStackM
import Derived.Test.YtlhbjfjphckifaaStackC
import Derived.Test.YtlhbjfjphckifaaStackF
import Derived.Test.YtlhbjfjphckifaaStackS
import Derived.Test.YtlhbjfjphckifaaStackP
import Derived.Test.YtlhbjfjphckifaaStackU
import Derived.Test.YtlhbjfjphckifaaStackU2
import Derived.Test.YtlhbjfjphckifaaStackR
import Derived.Test.YtlhbjfjphckifaaStackD
import Derived.Test.YtlhbjfjphckifaaStackW
import Derived.Test.YtlhbjfjphckifaaStackCp
import Derived.Test.YtlhbjfjphckifaaStackS2
import Derived.Test.YtlhbjfjphckifaaStackK
import Derived.Test.YtlhbjfjphckifaaStackV
import Derived.Test.YtlhbjfjphckifaaStackQ
import Derived.Test.YtlhbjfjphckifaaSameSt
import Derived.Test.YtlhbjfjphckifaaCopyB
import Derived.Test.YtlhbjfjphckifaaWriteS
import Derived.Test.YtlhbjfjphckifaaDraw
import Derived.Test.YtlhbjfjphckifaaDrawK
import Derived.Test.YtlhbjfjphckifaaDrawD
import Derived.Test.YtlhbjfjphckifaaDrawSt
import Derived.Test.YtlhbjfjphckifaaDrawStk
import Derived.Test.YtlhbjfjphckifaaDrawStl
import Derived.Test.YtlhbjfjphckifaaOpen
import Derived.IntWalk
namespace Go.Proofs.Ytlhbjfjphckifaa
open Go.RowKit Go.ChangeShapes Go.WideShapes Go.ChangeAt Go.Deep Go.Joins
namespace LwKc
theorem cutRdO {w : World} {l : List Int} {b off : Nat} (h : Rd eInt w (some ⟨b, off, none⟩) l) (f c : Nat) (hfc : f + c ≤ l.length) : Rd eInt w (some ⟨b, off + f, none⟩) ((l.drop f).take c) := by
  intro h0
  have hc0 : ((l.drop f).take c).length = c := by simp; omega
  obtain ⟨b', off', he, hc⟩ := h (by omega)
  cases he
  refine ⟨b, off + f, rfl, fun k hk j hj => ?_⟩
  have hj0 : j = 0 := by simp [eInt] at hj; exact hj
  subst hj0
  have := hc (f + k) (by omega) 0 (by simp [eInt])
  have e : off + f + k * eInt.size + 0 = off + (f + k) * eInt.size + 0 := by simp [eInt]; omega
  rw [e]
  simpa [eInt] using this
set_option maxHeartbeats 2000000 in
theorem implReadS_c (A : Option Addr) (c : Nat) (d : List Int) (f n : Nat) (w : World) (ha : SRd eInt w (.slice A d.length c) d) (hd : diskB d = true) (hn : 1 ≤ n) (hfn : f + n ≤ d.length) :
    Calls Try.prog 38 #[.slice A d.length c, .int .i64 f, .int .i64 n] w (MadeS eInt 3 ((d.drop f).take n) w) := by
  obtain ⟨A', c', he, hr, hlc, hcm, hnil⟩ := ha
  injection he with h1 h2 h3
  subst h1 h3
  have hdl := (diskB_true.1 hd).1
  have h2 : (inB (f : Int) 0 d.length && inB (n : Int) 0 ((d.length : Int) - f)) = true := by rw [inB_true.2 (by omega), inB_true.2 (by omega)]; rfl
  have HD := Lib.hid hd
  have H2 := Lib.hid h2
  obtain ⟨b, off, rfl, hc0⟩ := hr (by omega)
  have R3 := Lib.hid (cutRdO hr f n hfn)
  have HTL : Hid (((d.drop f).take n).length = n) := Lib.hid (by simp; omega)
  have HK5 : Hid (¬ (c = f)) := Lib.hid (by omega)
  have HFC : Hid (((f : Int) + (n : Int)).toNat - f = n) := Lib.hid (by omega)
  have hw1 := IntWalk.i64_in ((f : Int) + (n : Int)) (by omega)
  have hh1 : 0 ≤ (f : Int) := by omega
  have hh2 : (f : Int) ≤ (f : Int) + n := by omega
  have hh3 : (f : Int) + n ≤ (c : Int) := by omega
  clear hd h2 hc0 hnil
  go_enter Try.func38, Try.ntmps38
  go_wp2_with (first
    | (go_at_call 75; refine (diskValid_any _ c d _ hr (by omega)).mono ?_; rw [HD.out]; rintro e w' ⟨rfl, rfl⟩)
    | (go_at_call 85; refine (isStretch_any f n d.length _ (by omega) (by omega)).mono ?_; rw [H2.out]; rintro e w' ⟨rfl, rfl⟩)
    | (go_at_call 82; go_must ((try rw [if_neg HK5.out]); (try rw [HFC.out]); (with_reducible refine (cloneInts_n (some ⟨b, off + f, none⟩) (c - f) n ((d.drop f).take n) _ HTL.out R3.out (by omega) (fun h => nomatch h)).mono ?_); rintro e w4 ⟨u4, rfl, o4, hb4⟩)))
  go_ret
  exact ⟨u4, rfl, o4, hb4⟩
set_option maxHeartbeats 8000000 in
theorem walk (A : Option Addr) (c : Nat) (l : List Int) (w : World) (hl : l.length ≤ c) (hm : c ≤ maxLen) (hr : Rd eByte w A l) (hb : ∀ x ∈ l, 0 ≤ x ∧ x ≤ 255) :
    Calls Try.prog 8 #[.slice A l.length c] w fun e w' => e = .returned (.bool true) ∧ Below w.heap.size w w' := by
  have HB := Lib.hid hb
  clear hb
  by_cases hsz : (1048576 : Int) < l.length
  · unfold maxLen at hm
    go_enter Try.func8, Try.ntmps8
    go_wp2
    go_ret
    exact ⟨rfl, (by repeat (first | with_reducible exact Below.refl _ _ | with_reducible assumption | with_reducible refine below_drewN ?_ _ | with_reducible refine Below.drew ?_ | with_reducible refine Below.alloc ?_ ?_ _ | with_reducible refine Below.setCell ?_ ?_ _ | (with_reducible refine Below.next ?_ (by assumption)) | omega | (focus (simp; omega)) | (focus (simp; done))))⟩
  go_enter Try.func8, Try.ntmps8
  go_wp2_with fail
  refine (drawStc_any A c l _ hl hm hr HB.out).mono ?_
  rintro e w1 ⟨y0, y1, y2, y3, t, rfl, hown, hs60, hcnt, hb1⟩
  obtain ⟨A0, c0, A1, c1, A2, c2, e0, e1, e2, e3⟩ := id hown.rd.mst
  subst e0 e1 e2 e3
  have HCNT := Lib.hid hcnt
  have hz1 := hb1.size
  have HB1 := Lib.hid hb1
  have HS1 := Lib.hid (StackOwn.rd hown)
  have hszs : Hid (sizeStack t ≤ 1099511627776) := Lib.hid (by omega)
  have hs6 := hs60
  unfold sizeStack at hs6
  have LS := Loc.newAt w1 [.slice A0 t.dsk.length c0, .slice A1 t.prt.length c1, .slice A2 t.lns.length c2, .int .i64 t.mst] 35 (b := w1.heap.size) rfl
  clear hb1 hown hcnt hsz
  obtain ⟨x, hx⟩ : ∃ x, x = crashS t := ⟨_, rfl⟩
  have HX := Lib.hid hx
  have hxs := crashS_size t
  rw [← hx] at hxs
  have hxsz : Hid (sizeStack x ≤ 1099511627776) := Lib.hid (by omega)
  have hxs6 := hxs
  unfold sizeStack at hxs6
  clear hx
  go_wp2_with fail
  refine (implCrash_c _ _ _ _ t _ (StackRd.below HS1.out (by repeat (first | with_reducible exact Below.refl _ _ | with_reducible refine below_drewN ?_ _ | with_reducible refine Below.drew ?_ | with_reducible refine Below.alloc ?_ ?_ _ | with_reducible refine Below.setCell ?_ ?_ _ | omega | (focus (simp; omega)) | (focus (simp; done))))) hszs.out).mono ?_
  rw [← HX.out]
  rintro e w2 ⟨q0, q1, q2, q3, rfl, O2, hb2⟩
  obtain ⟨B0, d0, B1, d1, B2, d2, e0, e1, e2, e3⟩ := id O2.rd.mst
  subst e0 e1 e2 e3
  have LS2 := Loc.carryB LS (fun h => by ((repeat (first | with_reducible exact h | with_reducible refine Loc.drew ?_ | with_reducible refine Loc.drewN ?_ _ | with_reducible refine Loc.alloc ?_ _)); done)) hb2
  have zS2 := LS2.lt
  have HB2 : Hid (Below w.heap.size w w2) := Lib.hid (Below.next (W := w) (by repeat (first | with_reducible exact HB1.out | with_reducible exact Below.refl _ _ | with_reducible refine below_drewN ?_ _ | with_reducible refine Below.drew ?_ | with_reducible refine Below.alloc ?_ ?_ _ | with_reducible refine Below.setCell ?_ ?_ _ | (with_reducible refine Below.next ?_ (by assumption)) | ((with_reducible refine Below.far' (by assumption) ?_ ?_ ?_); (focus (first | omega | (simp; omega) | (simp; done))); (focus (first | omega | (simp; omega) | (simp; done)))) | omega | (focus (simp; omega)) | (focus (simp; done)))) hb2)
  have HS2 := Lib.hid (StackRd.below HS1.out (Below.next (by repeat (first | with_reducible exact Below.refl _ _ | with_reducible refine below_drewN ?_ _ | with_reducible refine Below.drew ?_ | with_reducible refine Below.alloc ?_ ?_ _ | with_reducible refine Below.setCell ?_ ?_ _ | omega | (focus (simp; omega)) | (focus (simp; done)))) hb2))
  have hz2 := hb2.size
  (try simp at hz2)
  have HX2 := Lib.hid (StackOwn.rd O2)
  have LX2 := Loc.newAt w2 [.slice B0 x.dsk.length d0, .slice B1 x.prt.length d1, .slice B2 x.lns.length d2, .int .i64 x.mst] 35 (b := w2.heap.size) rfl
  have LSa := Loc.alloc LS2 (.cells #[.slice B0 x.dsk.length d0, .slice B1 x.prt.length d1, .slice B2 x.lns.length d2, .int .i64 x.mst] 35)
  clear hb2 O2 LS
  obtain ⟨s0, s1, s2, s3, sf⟩ := LSa.four
  obtain ⟨r0, r1, r2, r3, rf⟩ := LX2.four
  go_wp2_with fail
  go_region_held3 (fun w' => w'.cell? ⟨w1.heap.size, 0, none⟩ = some (.slice A0 t.dsk.length c0) ∧ w'.cell? ⟨w1.heap.size, 1, none⟩ = some (.slice A1 t.prt.length c1) ∧ w'.cell? ⟨w1.heap.size, 2, none⟩ = some (.slice A2 t.lns.length c2) ∧ w'.cell? ⟨w1.heap.size, 3, none⟩ = some (.int .i64 t.mst) ∧ w'.cell? ⟨w2.heap.size, 0, none⟩ = some (.slice B0 x.dsk.length d0) ∧ w'.cell? ⟨w2.heap.size, 1, none⟩ = some (.slice B1 x.prt.length d1) ∧ w'.cell? ⟨w2.heap.size, 2, none⟩ = some (.slice B2 x.lns.length d2) ∧ w'.cell? ⟨w2.heap.size, 3, none⟩ = some (.int .i64 x.mst)) (first | (with_reducible assumption) | (refine ⟨?_, ?_, ?_, ?_, ?_, ?_, ?_, ?_⟩ <;> with_reducible assumption) | go_keep | (refine ⟨?_, ?_, ?_, ?_, ?_, ?_, ?_, ?_⟩ <;> (simp [go_sem, *]; done))) (first
    | (go_at_call 35; go_must ((with_reducible refine (specCrash_c _ _ _ _ t _ (StackRd.below HS2.out (by repeat (first | with_reducible exact Below.refl _ _ | with_reducible refine below_drewN ?_ _ | with_reducible refine Below.drew ?_ | with_reducible refine Below.alloc ?_ ?_ _ | with_reducible refine Below.setCell ?_ ?_ _ | omega | (focus (simp; omega)) | (focus (simp; done))))) hszs.out).mono ?_); rw [← HX.out]; rintro e w3 ⟨p0, p1, p2, p3, rfl, O3, hb3⟩; have H3 := Lib.hid (StackOwn.rd O3); have LS3 := Loc.carryB LS2 (fun h => by ((repeat (first | with_reducible exact h | with_reducible refine Loc.drew ?_ | with_reducible refine Loc.drewN ?_ _ | with_reducible refine Loc.alloc ?_ _)); done)) hb3; obtain ⟨s0_3, s1_3, s2_3, s3_3, sf_3⟩ := LS3.four; have zS_3 := LS3.lt; have LX3 := Loc.carryB LX2 (fun h => by ((repeat (first | with_reducible exact h | with_reducible refine Loc.drew ?_ | with_reducible refine Loc.drewN ?_ _ | with_reducible refine Loc.alloc ?_ _)); done)) hb3; obtain ⟨r0_3, r1_3, r2_3, r3_3, rf_3⟩ := LX3.four; have zX_3 := LX3.lt; have HB3 : Hid (Below w.heap.size w w3) := Lib.hid (Below.next (W := w) (by repeat (first | with_reducible exact HB2.out | with_reducible exact Below.refl _ _ | with_reducible refine below_drewN ?_ _ | with_reducible refine Below.drew ?_ | with_reducible refine Below.alloc ?_ ?_ _ | with_reducible refine Below.setCell ?_ ?_ _ | (with_reducible refine Below.next ?_ (by assumption)) | ((with_reducible refine Below.far' (by assumption) ?_ ?_ ?_); (focus (first | omega | (simp; omega) | (simp; done))); (focus (first | omega | (simp; omega) | (simp; done)))) | omega | (focus (simp; omega)) | (focus (simp; done)))) hb3); have HS3 := Lib.hid (StackRd.below HS2.out (Below.next (by repeat (first | with_reducible exact Below.refl _ _ | with_reducible refine below_drewN ?_ _ | with_reducible refine Below.drew ?_ | with_reducible refine Below.alloc ?_ ?_ _ | with_reducible refine Below.setCell ?_ ?_ _ | omega | (focus (simp; omega)) | (focus (simp; done)))) hb3)); have HX3 := Lib.hid (StackRd.below HX2.out (Below.next (by repeat (first | with_reducible exact Below.refl _ _ | with_reducible refine below_drewN ?_ _ | with_reducible refine Below.drew ?_ | with_reducible refine Below.alloc ?_ ?_ _ | with_reducible refine Below.setCell ?_ ?_ _ | omega | (focus (simp; omega)) | (focus (simp; done)))) hb3)); have hz3 := hb3.size; (try simp at hz3); clear hb3; clear O3))
    | (go_at_call 34; go_must ((with_reducible refine (sameStack_c _ _ _ _ _ _ _ _ x _ (StackRd.below HX3.out (by repeat (first | with_reducible exact Below.refl _ _ | with_reducible refine below_drewN ?_ _ | with_reducible refine Below.drew ?_ | with_reducible refine Below.alloc ?_ ?_ _ | with_reducible refine Below.setCell ?_ ?_ _ | omega | (focus (simp; omega)) | (focus (simp; done))))) (StackRd.below H3.out (by repeat (first | with_reducible exact Below.refl _ _ | with_reducible refine below_drewN ?_ _ | with_reducible refine Below.drew ?_ | with_reducible refine Below.alloc ?_ ?_ _ | with_reducible refine Below.setCell ?_ ?_ _ | omega | (focus (simp; omega)) | (focus (simp; done))))) hxsz.out).mono ?_); rintro e w4 ⟨rfl, hb4⟩; have LS4 := Loc.carryB LS3 (fun h => by ((repeat (first | with_reducible exact h | with_reducible refine Loc.drew ?_ | with_reducible refine Loc.drewN ?_ _ | with_reducible refine Loc.alloc ?_ _)); done)) hb4; obtain ⟨s0_4, s1_4, s2_4, s3_4, sf_4⟩ := LS4.four; have zS_4 := LS4.lt; have LX4 := Loc.carryB LX3 (fun h => by ((repeat (first | with_reducible exact h | with_reducible refine Loc.drew ?_ | with_reducible refine Loc.drewN ?_ _ | with_reducible refine Loc.alloc ?_ _)); done)) hb4; obtain ⟨r0_4, r1_4, r2_4, r3_4, rf_4⟩ := LX4.four; have zX_4 := LX4.lt; have HB4 : Hid (Below w.heap.size w w4) := Lib.hid (Below.next (W := w) (by repeat (first | with_reducible exact HB3.out | with_reducible exact Below.refl _ _ | with_reducible refine below_drewN ?_ _ | with_reducible refine Below.drew ?_ | with_reducible refine Below.alloc ?_ ?_ _ | with_reducible refine Below.setCell ?_ ?_ _ | (with_reducible refine Below.next ?_ (by assumption)) | ((with_reducible refine Below.far' (by assumption) ?_ ?_ ?_); (focus (first | omega | (simp; omega) | (simp; done))); (focus (first | omega | (simp; omega) | (simp; done)))) | omega | (focus (simp; omega)) | (focus (simp; done)))) hb4); have HS4 := Lib.hid (StackRd.below HS3.out (Below.next (by repeat (first | with_reducible exact Below.refl _ _ | with_reducible refine below_drewN ?_ _ | with_reducible refine Below.drew ?_ | with_reducible refine Below.alloc ?_ ?_ _ | with_reducible refine Below.setCell ?_ ?_ _ | omega | (focus (simp; omega)) | (focus (simp; done)))) hb4)); have HX4 := Lib.hid (StackRd.below HX3.out (Below.next (by repeat (first | with_reducible exact Below.refl _ _ | with_reducible refine below_drewN ?_ _ | with_reducible refine Below.drew ?_ | with_reducible refine Below.alloc ?_ ?_ _ | with_reducible refine Below.setCell ?_ ?_ _ | omega | (focus (simp; omega)) | (focus (simp; done)))) hb4)); have hz4 := hb4.size; (try simp at hz4); clear hb4)))
  clear s0 s1 s2 s3 sf r0 r1 r2 r3 rf LSa LS2 LX2 LS3 LX3 HS1 HS2 HS3 HX2 HX3 H3 HB1 HB2 HB3 s0_3 s1_3 s2_3 s3_3 sf_3 r0_3 r1_3 r2_3 r3_3 rf_3
  cases hv : stackB t
  · have hm : x.mst = 0 := by rw [HX.out, crash_no hv]; rfl
    have hm0 : (x.mst == 0) = true := by rw [hm]; rfl
    clear hm hv
    go_wp2_with (go_at_call 31; refine (alive_any _).mono ?_; rintro e w6 ⟨rfl, hb6⟩)
    go_ret
    exact ⟨rfl, Below.next (W := w) HB4.out hb6⟩
  · have hxok : stackB x = true := by rw [HX.out]; exact crash_ok hv
    have hm := mst_pos hxok
    have hm0 : (x.mst == 0) = false := by rw [beq_eq_false_iff_ne]; omega
    have HXV := Lib.hid hxok
    have hxd : x.dsk = t.dsk := by rw [HX.out, crash_is hv]
    have hxl : x.lns.length = 0 := by rw [HX.out, crash_is hv]; rfl
    have HXD := Lib.hid hxd
    have HXL := Lib.hid hxl
    have HDB := Lib.hid (stack_true.1 hv).1
    have hvw := fun (k : Nat) (hk : k < t.prt.length) => crash_view hv hk
    have hbd := fun (k : Nat) (hk : k < t.prt.length) => prt_bd hv hk
    rw [← HX.out] at hvw
    have HVW := Lib.hid hvw
    have HBD := Lib.hid hbd
    clear hv hxok hm hxd hvw hbd hxl
    go_wp2
    go_loopw [5] (fun i wr => ∃ k : Nat, k ≤ t.prt.length ∧ i = .int .i64 k ∧ Loc wr w1.heap.size [.slice A0 t.dsk.length c0, .slice A1 t.prt.length c1, .slice A2 t.lns.length c2, .int .i64 t.mst] ∧ Loc wr w2.heap.size [.slice B0 x.dsk.length d0, .slice B1 x.prt.length d1, .slice B2 x.lns.length d2, .int .i64 x.mst] ∧ Below w.heap.size w wr ∧ StackRd wr [.slice A0 t.dsk.length c0, .slice A1 t.prt.length c1, .slice A2 t.lns.length c2, .int .i64 t.mst] t ∧ StackRd wr [.slice B0 x.dsk.length d0, .slice B1 x.prt.length d1, .slice B2 x.lns.length d2, .int .i64 x.mst] x) (fun i _ => t.prt.length - (intOf i).toNat)
    case atStart => exact ⟨0, Nat.zero_le _, rfl, LS4, LX4, HB4.out, HS4.out, HX4.out⟩
    case round =>
      clear LS4 LX4 HB4 HS4 HX4 s0_4 s1_4 s2_4 s3_4 sf_4 r0_4 r1_4 r2_4 r3_4 rf_4
      obtain ⟨k, hk, rfl, LS6, LX6, hbw, hsr, hxr⟩ := hrel
      obtain ⟨w6, hwa⟩ : ∃ x, x = wr := ⟨_, rfl⟩
      subst hwa
      have HB6 := Lib.hid hbw
      have HS6 := Lib.hid hsr
      have HX6 := Lib.hid hxr
      have zS := LS6.lt
      have zX := LX6.lt
      obtain ⟨s0, s1, s2, s3, sf⟩ := LS6.four
      obtain ⟨r0, r1, r2, r3, rf⟩ := LX6.four
      clear hbw hsr hxr
      by_cases hlt : k < t.prt.length
      · obtain ⟨bd1, bd2, bd3⟩ := HBD.out k hlt
        have hvk := HVW.out k hlt
        obtain ⟨b, off, hAd, hbl, hc1, hc2⟩ := HS6.out.prow.1.rPartS hlt
        subst hAd
        obtain ⟨y, hy⟩ : ∃ y, y = t.prt[k]'hlt := ⟨_, rfl⟩
        rw [← hy] at hc1 hc2 hvk bd1 bd2 bd3
        clear hy
        obtain ⟨yf, yc⟩ := y
        simp only at hc1 hc2 hvk bd1 bd2 bd3
        obtain ⟨f, rfl⟩ := Int.eq_ofNat_of_zero_le bd1
        obtain ⟨cc, rfl⟩ := Int.eq_ofNat_of_zero_le (show 0 ≤ yc by omega)
        simp only [Int.toNat_natCast] at hvk
        obtain ⟨vk, hvv⟩ : ∃ vk, vk = (t.dsk.drop f).take cc := ⟨_, rfl⟩
        have hvl : vk.length ≤ 1000 := by rw [hvv, List.length_take, List.length_drop]; omega
        have HVK : Hid (partV x k = vk) := Lib.hid (by rw [hvk, hvv])
        have HVV := Lib.hid hvv
        have hfc : f + cc ≤ t.dsk.length := by omega
        have hc1n : 1 ≤ cc := by omega
        clear hvk hvv
        go_wp2_with fail
        go_region_held3 (fun w' => w'.cell? ⟨w1.heap.size, 0, none⟩ = some (.slice A0 t.dsk.length c0) ∧ w'.cell? ⟨w1.heap.size, 1, none⟩ = some (.slice (some ⟨b, off, none⟩) t.prt.length c1) ∧ w'.cell? ⟨w1.heap.size, 2, none⟩ = some (.slice A2 t.lns.length c2) ∧ w'.cell? ⟨w1.heap.size, 3, none⟩ = some (.int .i64 t.mst) ∧ w'.cell? ⟨w2.heap.size, 0, none⟩ = some (.slice B0 x.dsk.length d0) ∧ w'.cell? ⟨w2.heap.size, 1, none⟩ = some (.slice B1 x.prt.length d1) ∧ w'.cell? ⟨w2.heap.size, 2, none⟩ = some (.slice B2 x.lns.length d2) ∧ w'.cell? ⟨w2.heap.size, 3, none⟩ = some (.int .i64 x.mst) ∧ w'.cell? ⟨b, off + k * 2, none⟩ = some (.int .i64 f) ∧ w'.cell? ⟨b, off + k * 2 + 1, none⟩ = some (.int .i64 cc)) (first | (with_reducible assumption) | (refine ⟨?_, ?_, ?_, ?_, ?_, ?_, ?_, ?_, ?_, ?_⟩ <;> with_reducible assumption) | go_keep | (refine ⟨?_, ?_, ?_, ?_, ?_, ?_, ?_, ?_, ?_, ?_⟩ <;> (simp [go_sem, *]; done))) (first
          | (go_at_call 37; (with_reducible refine (implPV_c (.slice B0 x.dsk.length d0) _ _ _ x k _ (StackRd.below HX6.out (by repeat (first | with_reducible exact Below.refl _ _ | with_reducible refine below_drewN ?_ _ | with_reducible refine Below.drew ?_ | with_reducible refine Below.alloc ?_ ?_ _ | with_reducible refine Below.setCell ?_ ?_ _ | omega | (focus (simp; omega)) | (focus (simp; done))))) hxsz.out).mono ?_); go_must (rw [HVK.out]; rintro e w8 ⟨v8, rfl, o8, hb8⟩; obtain ⟨A8, c8, gg8, rfl, -, -⟩ := id o8; have H8 := Lib.hid (SOwn.rd o8); have k81 := ((bcell hb8).1 b (off + k * 2) hbl).trans hc1; have k82 := ((bcell hb8).1 b (off + k * 2 + 1) hbl).trans hc2; have hbl8 : b < w8.heap.size := Nat.lt_of_lt_of_le hbl hb8.size; have LS8 := Loc.carryB LS6 (fun h => by ((repeat (first | with_reducible exact h | with_reducible refine Loc.drew ?_ | with_reducible refine Loc.drewN ?_ _ | with_reducible refine Loc.alloc ?_ _)); done)) hb8; obtain ⟨s0_8, s1_8, s2_8, s3_8, sf_8⟩ := LS8.four; have zS_8 := LS8.lt; have LX8 := Loc.carryB LX6 (fun h => by ((repeat (first | with_reducible exact h | with_reducible refine Loc.drew ?_ | with_reducible refine Loc.drewN ?_ _ | with_reducible refine Loc.alloc ?_ _)); done)) hb8; obtain ⟨r0_8, r1_8, r2_8, r3_8, rf_8⟩ := LX8.four; have zX_8 := LX8.lt; have HB8 : Hid (Below w.heap.size w w8) := Lib.hid (Below.next (W := w) (by repeat (first | with_reducible exact HB6.out | with_reducible exact Below.refl _ _ | with_reducible refine below_drewN ?_ _ | with_reducible refine Below.drew ?_ | with_reducible refine Below.alloc ?_ ?_ _ | with_reducible refine Below.setCell ?_ ?_ _ | (with_reducible refine Below.next ?_ (by assumption)) | ((with_reducible refine Below.far' (by assumption) ?_ ?_ ?_); (focus (first | omega | (simp; omega) | (simp; done))); (focus (first | omega | (simp; omega) | (simp; done)))) | omega | (focus (simp; omega)) | (focus (simp; done)))) hb8); have HS8 := Lib.hid (StackRd.below HS6.out (Below.next (by repeat (first | with_reducible exact Below.refl _ _ | with_reducible refine below_drewN ?_ _ | with_reducible refine Below.drew ?_ | with_reducible refine Below.alloc ?_ ?_ _ | with_reducible refine Below.setCell ?_ ?_ _ | omega | (focus (simp; omega)) | (focus (simp; done)))) hb8)); have HX8 := Lib.hid (StackRd.below HX6.out (Below.next (by repeat (first | with_reducible exact Below.refl _ _ | with_reducible refine below_drewN ?_ _ | with_reducible refine Below.drew ?_ | with_reducible refine Below.alloc ?_ ?_ _ | with_reducible refine Below.setCell ?_ ?_ _ | omega | (focus (simp; omega)) | (focus (simp; done)))) hb8)); have hz8 := hb8.size; (try simp at hz8); clear hb8))
          | (go_at_call 38; (with_reducible refine (implReadS_c A0 c0 t.dsk f cc _ (SRd.below HS8.out.parts.1 (by repeat (first | with_reducible exact Below.refl _ _ | with_reducible refine below_drewN ?_ _ | with_reducible refine Below.drew ?_ | with_reducible refine Below.alloc ?_ ?_ _ | with_reducible refine Below.setCell ?_ ?_ _ | omega | (focus (simp; omega)) | (focus (simp; done))))) HDB.out hc1n hfc).mono ?_); go_must (rw [← HVV.out]; rintro e w9 ⟨v9, rfl, o9, hb9⟩; obtain ⟨A9, c9, gg9, rfl, -, -⟩ := id o9; have H9 := Lib.hid (SOwn.rd o9); have H89 := Lib.hid (SRd.below H8.out (Below.next (by repeat (first | with_reducible exact Below.refl _ _ | with_reducible refine below_drewN ?_ _ | with_reducible refine Below.drew ?_ | with_reducible refine Below.alloc ?_ ?_ _ | with_reducible refine Below.setCell ?_ ?_ _ | omega | (focus (simp; omega)) | (focus (simp; done)))) hb9)); have k91 := ((bcell hb9).1 b (off + k * 2) hbl8).trans k81; have k92 := ((bcell hb9).1 b (off + k * 2 + 1) hbl8).trans k82; have LS9 := Loc.carryB LS8 (fun h => by ((repeat (first | with_reducible exact h | with_reducible refine Loc.drew ?_ | with_reducible refine Loc.drewN ?_ _ | with_reducible refine Loc.alloc ?_ _)); done)) hb9; obtain ⟨s0_9, s1_9, s2_9, s3_9, sf_9⟩ := LS9.four; have zS_9 := LS9.lt; have LX9 := Loc.carryB LX8 (fun h => by ((repeat (first | with_reducible exact h | with_reducible refine Loc.drew ?_ | with_reducible refine Loc.drewN ?_ _ | with_reducible refine Loc.alloc ?_ _)); done)) hb9; obtain ⟨r0_9, r1_9, r2_9, r3_9, rf_9⟩ := LX9.four; have zX_9 := LX9.lt; have HB9 : Hid (Below w.heap.size w w9) := Lib.hid (Below.next (W := w) (by repeat (first | with_reducible exact HB8.out | with_reducible exact Below.refl _ _ | with_reducible refine below_drewN ?_ _ | with_reducible refine Below.drew ?_ | with_reducible refine Below.alloc ?_ ?_ _ | with_reducible refine Below.setCell ?_ ?_ _ | (with_reducible refine Below.next ?_ (by assumption)) | ((with_reducible refine Below.far' (by assumption) ?_ ?_ ?_); (focus (first | omega | (simp; omega) | (simp; done))); (focus (first | omega | (simp; omega) | (simp; done)))) | omega | (focus (simp; omega)) | (focus (simp; done)))) hb9); have HS9 := Lib.hid (StackRd.below HS8.out (Below.next (by repeat (first | with_reducible exact Below.refl _ _ | with_reducible refine below_drewN ?_ _ | with_reducible refine Below.drew ?_ | with_reducible refine Below.alloc ?_ ?_ _ | with_reducible refine Below.setCell ?_ ?_ _ | omega | (focus (simp; omega)) | (focus (simp; done)))) hb9)); have HX9 := Lib.hid (StackRd.below HX8.out (Below.next (by repeat (first | with_reducible exact Below.refl _ _ | with_reducible refine below_drewN ?_ _ | with_reducible refine Below.drew ?_ | with_reducible refine Below.alloc ?_ ?_ _ | with_reducible refine Below.setCell ?_ ?_ _ | omega | (focus (simp; omega)) | (focus (simp; done)))) hb9)); have hz9 := hb9.size; (try simp at hz9); clear hb9))
          | (go_at_call 36; (with_reducible refine (sameInts_v (.slice A8 vk.length c8) (.slice A9 vk.length c9) vk vk _ (SRd.below H89.out (by repeat (first | with_reducible exact Below.refl _ _ | with_reducible refine below_drewN ?_ _ | with_reducible refine Below.drew ?_ | with_reducible refine Below.alloc ?_ ?_ _ | with_reducible refine Below.setCell ?_ ?_ _ | omega | (focus (simp; omega)) | (focus (simp; done))))) (SRd.below H9.out (by repeat (first | with_reducible exact Below.refl _ _ | with_reducible refine below_drewN ?_ _ | with_reducible refine Below.drew ?_ | with_reducible refine Below.alloc ?_ ?_ _ | with_reducible refine Below.setCell ?_ ?_ _ | omega | (focus (simp; omega)) | (focus (simp; done))))) (by omega) (by omega)).mono ?_); go_must (rw [dec_reflK]; rintro e w10 ⟨rfl, q10, rfl⟩)))
        go_wp2
        go_roundw
        case rel => exact ⟨k + 1, by omega, by go_num, Loc.drewN LS9 _, Loc.drewN LX9 _, below_drewN HB9.out _, StackRd.below HS9.out (by repeat (first | with_reducible exact Below.refl _ _ | with_reducible refine below_drewN ?_ _ | with_reducible refine Below.drew ?_ | with_reducible refine Below.alloc ?_ ?_ _ | with_reducible refine Below.setCell ?_ ?_ _ | omega | (focus (simp; omega)) | (focus (simp; done)))), StackRd.below HX9.out (by repeat (first | with_reducible exact Below.refl _ _ | with_reducible refine below_drewN ?_ _ | with_reducible refine Below.drew ?_ | with_reducible refine Below.alloc ?_ ?_ _ | with_reducible refine Below.setCell ?_ ?_ _ | omega | (focus (simp; omega)) | (focus (simp; done))))⟩
        case measure => simp [intOf]; omega
      · have EA := Lib.hid HX6.out.parts.1
        have EB := Lib.hid HS6.out.parts.1
        have hxl0 : ((x.lns.length : Int) == 0) = true := by rw [HXL.out]; rfl
        go_wp2_with fail
        refine (sameInts_v _ _ x.dsk t.dsk _ (SRd.below EA.out (by repeat (first | with_reducible exact Below.refl _ _ | with_reducible refine below_drewN ?_ _ | with_reducible refine Below.drew ?_ | with_reducible refine Below.alloc ?_ ?_ _ | with_reducible refine Below.setCell ?_ ?_ _ | omega | (focus (simp; omega)) | (focus (simp; done))))) (SRd.below EB.out (by repeat (first | with_reducible exact Below.refl _ _ | with_reducible refine below_drewN ?_ _ | with_reducible refine Below.drew ?_ | with_reducible refine Below.alloc ?_ ?_ _ | with_reducible refine Below.setCell ?_ ?_ _ | omega | (focus (simp; omega)) | (focus (simp; done))))) (by omega) (by omega)).mono ?_
        rw [HXD.out, dec_reflK]
        rintro e w7 ⟨rfl, q7, rfl⟩
        go_wp2_with fail
        refine (implStack_c _ _ _ _ x _ (StackRd.below HX6.out (by repeat (first | with_reducible exact Below.refl _ _ | with_reducible refine below_drewN ?_ _ | with_reducible refine Below.drew ?_ | with_reducible refine Below.alloc ?_ ?_ _ | with_reducible refine Below.setCell ?_ ?_ _ | omega | (focus (simp; omega)) | (focus (simp; done))))) hxsz.out).mono ?_
        rw [HXV.out]
        rintro e w21 ⟨rfl, hb21⟩
        go_wp2
        go_ret
        exact ⟨rfl, Below.next (W := w) (by repeat (first | with_reducible exact HB6.out | with_reducible exact Below.refl _ _ | with_reducible refine below_drewN ?_ _ | with_reducible refine Below.drew ?_ | with_reducible refine Below.alloc ?_ ?_ _ | with_reducible refine Below.setCell ?_ ?_ _ | (with_reducible refine Below.next ?_ (by assumption)) | ((with_reducible refine Below.far' (by assumption) ?_ ?_ ?_); (focus (first | omega | (simp; omega) | (simp; done))); (focus (first | omega | (simp; omega) | (simp; done)))) | omega | (focus (simp; omega)) | (focus (simp; done)))) hb21⟩
set_option maxRecDepth 100000 in
theorem lifted (os : Os) (started : os.Started) (H : Type) (enc : TypeId × Value → H) :
    ReturnsInHanded {} Try.checked os 8 .any (Rows.fnStackCrashSpec.pre6 enc Try.prog Try.f8 Rows.fnStackCrashRow.domain false) (Rows.fnStackCrashSpec.post enc Try.prog Try.f8 false true false false) := by
  refine returnsInHanded_of_change (C := Try.checked) own_knob started (by kernel_rfl) Try.func8
    (ChangeSpec.witness6 (enc := enc) (C := Try.checked) false ⟨#[], #[.slice none 0 0], []⟩ 8 (by kernel_rfl) (by kernel_rfl) (by kernel_rfl) (by kernel_rfl)) ?_
  intro W base args ds gs before hval0 hW hcnd _
  have hval : ∀ (j : Nat) t v, Try.f8.params[j]? = some t → args[j]? = some v → Value.okWide Try.prog W .any base t v := hval0
  have hW' := hW
  obtain ⟨p, q, hA0, hV, rfl, hfz, hnd⟩ := hW
  have hA : DataW.TrodAll enc Try.prog W 0 (fun _ => true) true Try.f8.params.toList args.toList ds p := hA0
  rw [Try.params8] at hA hval
  obtain ⟨v0, vs0, d0, ds0, p0, q0, hargs, rfl, rfl, h0, r0⟩ := trodAll_cons hA
  obtain ⟨rfl, rfl, rfl⟩ := trodAll_nil r0
  obtain rfl : args = #[v0] := by cases args; simp_all
  obtain ⟨rfl, rfl⟩ := trodVars_none hV
  have k0 := h0
  have lt0 : ∀ x ∈ p0, x.block < W.heap.size := by obtain ⟨m, hm⟩ := k0; exact DataW.trod_lt m _ _ _ hm
  obtain ⟨A0, c0, l0, rfl, hl0, hm0, rd0, by0⟩ := open_bytes Try.underlying46 Try.underlying5 (by kernel_rfl) (hval 0 46 v0 rfl rfl) h0
  clear hA0 hval0
  refine (walk A0 c0 l0 W hl0 hm0 rd0 by0).mono fun e W' ⟨he, bel⟩ => ?_
  subst he
  exact ⟨_, rfl, _, _, _, [], _, [], hW', trodAll_mk1 (shut_bool Try.underlying4 _), (trodAll_cons_mk (Below.trod laid_out (by kernel_rfl) (of_decide_eq_true (by kernel_rfl)) k0 bel lt0) trodAll_mk0), rfl, bel.frame _, fun h => by cases h⟩
theorem over : Rows.fnStackCrashRow.holds Try.pinned (OpenSpec.ofChange Rows.fnStackCrashSpec) :=
  OpenClaim.holds_of_wide 8 Try.f8 rfl rfl rfl rfl rfl rfl rfl ⟨rfl, rfl, rfl, rfl, rfl⟩ rfl rfl rfl rfl rfl (by kernel_rfl) Try.func8 (by kernel_rfl)
    (of_decide_eq_true (by kernel_rfl)) (by unfold Func.isWrapper; first | (rw [if_pos (by decide +kernel)]; kernel_rfl) | (rw [if_neg (by decide +kernel)]; exact ⟨rfl, rfl⟩))
    (fun os started H enc _ => lifted os started H enc)
theorem proved : Rows.FnStackCrashSaid := over
end LwKc
end Go.Proofs.Ytlhbjfjphckifaa
