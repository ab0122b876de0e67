/-
  FnStackWrite: the view of the partition is the one before with the value at the sector, and those of all other partitions are unchanged, if the lines of the cache that are not dirty have the values of the disk. No condition.
-/
import Derived.Test.YtlhbjfjphckifaaBase
import Derived.Test.YtlhbjfjphckifaaNum
import Derived.Test.YtlhbjfjphckifaaInts
import Derived.Test.YtlhbjfjphckifaaApp
import Derived.Test.YtlhbjfjphckifaaIntsW
import Derived.Test.YtlhbjfjphckifaaLib
import Derived.Test.YtlhbjfjphckifaaSpares
import Derived.Test.YtlhbjfjphckifaaOwn
import Derived.Test.YtlhbjfjphckifaaPart
import Derived.Test.YtlhbjfjphckifaaLine
import Derived.Test.YtlhbjfjphckifaaStack
import Derived.Test.YtlhbjfjphckifaaStackM
import Derived.Test.YtlhbjfjphckifaaStackC
import Derived.Test.YtlhbjfjphckifaaStackF
import Derived.Test.YtlhbjfjphckifaaStackS
import Derived.Test.YtlhbjfjphckifaaStackP
import Derived.Test.YtlhbjfjphckifaaStackU
import Derived.Test.YtlhbjfjphckifaaStackU2
import Derived.Test.YtlhbjfjphckifaaStackR
import Derived.Test.YtlhbjfjphckifaaStackD
import Derived.Test.YtlhbjfjphckifaaStackW
import Derived.Test.YtlhbjfjphckifaaStackX
import Derived.Test.YtlhbjfjphckifaaStackY
import Derived.Test.YtlhbjfjphckifaaStackCp
import Derived.Test.YtlhbjfjphckifaaStackS2
import Derived.Test.YtlhbjfjphckifaaStackV
import Derived.Test.YtlhbjfjphckifaaStackQ
import Derived.Test.YtlhbjfjphckifaaCleanS
import Derived.Test.YtlhbjfjphckifaaSameSt
import Derived.Test.YtlhbjfjphckifaaCopyB
import Derived.Test.YtlhbjfjphckifaaWriteS
import Derived.Test.YtlhbjfjphckifaaDraw
import Derived.Test.YtlhbjfjphckifaaDrawK
import Derived.Test.YtlhbjfjphckifaaDrawD
import Derived.Test.YtlhbjfjphckifaaDrawSt
import Derived.Test.YtlhbjfjphckifaaDrawStk
import Derived.Test.YtlhbjfjphckifaaDrawStl
import Derived.Test.YtlhbjfjphckifaaOpen
import Derived.IntWalk
namespace Go.Proofs.Ytlhbjfjphckifaa
open Go.RowKit Go.ChangeShapes Go.WideShapes Go.ChangeAt Go.Deep Go.Joins
namespace LwKw
theorem see_range {l : List Ln} {d : List Int} (hd : ∀ x ∈ d, 0 ≤ x ∧ x ≤ 255) (hl : ∀ y ∈ l, 0 ≤ y.val ∧ y.val ≤ 255) : ∀ x ∈ seeD d l, 0 ≤ x ∧ x ≤ 255 := by
  unfold seeD
  induction l generalizing d with
  | nil => exact hd
  | cons y r ih =>
    rw [List.foldl_cons]
    refine ih (fun x hx => ?_) (fun z hz => hl z (by simp [hz]))
    rcases List.mem_or_eq_of_mem_set hx with h1 | h1
    · exact hd x h1
    · rw [h1]; exact hl y (by simp)
theorem partV_disk {t : Stk} (h : stackB t = true) {k : Nat} (hk : k < t.prt.length) : diskB (partV t k) = true := by
  obtain ⟨h1, h2, h3⟩ := stack_true.1 h
  have hv := cache_iff.1 h3
  have hr := see_range (disk_mem h1) (fun y hy => ⟨(hv.rng y hy).2.2.1, (hv.rng y hy).2.2.2⟩)
  refine disk_of ?_ ?_
  · have := (diskB_true.1 h1).1
    rw [partV_is h hk, List.length_take, List.length_drop, seeD_len]; omega
  · intro x hx
    rw [partV_is h hk] at hx
    exact hr x (List.mem_of_mem_drop (List.mem_of_mem_take hx))
theorem write1_srd {A : Option Addr} {c : Nat} {d vs : List Int} (k : Nat) (y : Int) {B : Option Addr} {cv : Nat} {w : World} (hvs : vs = d.set k y) (ha : SRd eInt w (.slice A d.length c) d) (hb : Rd eInt w B [y]) (hd : diskB d = true) (hk : k < d.length) (hv : 0 ≤ y ∧ y ≤ 255) :
    Calls Try.prog 48 #[.slice A d.length c, .int .i64 k, .slice B 1 cv] w (MadeS eInt 3 vs w) := by
  obtain ⟨A', c', he, hr, _, _, hn⟩ := ha
  injection he with h1 h2 h3
  subst h1 h3
  rw [hvs]
  exact (implWrite1_c A c d k y B cv w hr hn hb hd hk hv).mono MadeS.of_fresh
set_option maxHeartbeats 8000000 in
theorem walk (A : Option Addr) (c : Nat) (l : List Int) (w : World) (hl : l.length ≤ c) (hm : c ≤ maxLen) (hr : Rd eByte w A l) (hb : ∀ x ∈ l, 0 ≤ x ∧ x ≤ 255) :
    Calls Try.prog 16 #[.slice A l.length c] w fun e w' => e = .returned (.bool true) ∧ Below w.heap.size w w' := by
  have HB := Lib.hid hb
  clear hb
  by_cases hsz : (1048576 : Int) < l.length
  · unfold maxLen at hm
    go_enter Try.func16, Try.ntmps16
    go_wp2
    go_ret
    exact ⟨rfl, (by repeat (first | with_reducible exact Below.refl _ _ | with_reducible assumption | with_reducible refine below_drewN ?_ _ | with_reducible refine Below.drew ?_ | with_reducible refine Below.alloc ?_ ?_ _ | with_reducible refine Below.setCell ?_ ?_ _ | (with_reducible refine Below.next ?_ (by assumption)) | omega | (focus (simp; omega)) | (focus (simp; done))))⟩
  go_enter Try.func16, Try.ntmps16
  go_wp2_with fail
  refine (drawStw_any A c l _ hl hm hr HB.out).mono ?_
  rintro e w1 ⟨y0, y1, y2, y3, t, n, a, v, rfl, ⟨n0, n1⟩, ⟨a0, a1⟩, ⟨v0, v1⟩, hown, hs60, hcnt, hb1⟩
  obtain ⟨A0, c0, A1, c1, A2, c2, e0, e1, e2, e3⟩ := id hown.rd.mst
  subst e0 e1 e2 e3
  have HCNT := Lib.hid hcnt
  have hz1 := hb1.size
  have HB1 := Lib.hid hb1
  have HS1 := Lib.hid (StackOwn.rd hown)
  have hszs : Hid (sizeStack t ≤ 1099511627776) := Lib.hid (by omega)
  have hs6 := hs60
  unfold sizeStack at hs6
  have LS := Loc.newAt w1 [.slice A0 t.dsk.length c0, .slice A1 t.prt.length c1, .slice A2 t.lns.length c2, .int .i64 t.mst] 35 (b := w1.heap.size) rfl
  clear hb1 hown hcnt hsz
  obtain ⟨x, hx⟩ : ∃ x, x = writeS t n a v := ⟨_, rfl⟩
  have HX := Lib.hid hx
  have hxs := writeS_size t n a v
  rw [← hx] at hxs
  have hxsz : Hid (sizeStack x ≤ 1099511627776) := Lib.hid (by omega)
  have hxs6 := hxs
  unfold sizeStack at hxs6
  clear hx
  go_wp2_with fail
  refine (implWr_c _ _ _ _ t n a v _ (StackRd.below HS1.out (by repeat (first | with_reducible exact Below.refl _ _ | with_reducible refine below_drewN ?_ _ | with_reducible refine Below.drew ?_ | with_reducible refine Below.alloc ?_ ?_ _ | with_reducible refine Below.setCell ?_ ?_ _ | omega | (focus (simp; omega)) | (focus (simp; done))))) hszs.out).mono ?_
  rw [← HX.out]
  rintro e w2 ⟨q0, q1, q2, q3, rfl, O2, hb2⟩
  obtain ⟨B0, d0, B1, d1, B2, d2, e0, e1, e2, e3⟩ := id O2.rd.mst
  subst e0 e1 e2 e3
  have LS2 := Loc.carryB LS (fun h => by ((repeat (first | with_reducible exact h | with_reducible refine Loc.drew ?_ | with_reducible refine Loc.drewN ?_ _ | with_reducible refine Loc.alloc ?_ _)); done)) hb2
  have zS2 := LS2.lt
  have HB2 : Hid (Below w.heap.size w w2) := Lib.hid (Below.next (W := w) (by repeat (first | with_reducible exact HB1.out | with_reducible exact Below.refl _ _ | with_reducible refine below_drewN ?_ _ | with_reducible refine Below.drew ?_ | with_reducible refine Below.alloc ?_ ?_ _ | with_reducible refine Below.setCell ?_ ?_ _ | (with_reducible refine Below.next ?_ (by assumption)) | ((with_reducible refine Below.far' (by assumption) ?_ ?_ ?_); (focus (first | omega | (simp; omega) | (simp; done))); (focus (first | omega | (simp; omega) | (simp; done)))) | omega | (focus (simp; omega)) | (focus (simp; done)))) hb2)
  have HS2 := Lib.hid (StackRd.below HS1.out (Below.next (by repeat (first | with_reducible exact Below.refl _ _ | with_reducible refine below_drewN ?_ _ | with_reducible refine Below.drew ?_ | with_reducible refine Below.alloc ?_ ?_ _ | with_reducible refine Below.setCell ?_ ?_ _ | omega | (focus (simp; omega)) | (focus (simp; done)))) hb2))
  have hz2 := hb2.size
  (try simp at hz2)
  have HX2 := Lib.hid (StackOwn.rd O2)
  have LX2 := Loc.newAt w2 [.slice B0 x.dsk.length d0, .slice B1 x.prt.length d1, .slice B2 x.lns.length d2, .int .i64 x.mst] 35 (b := w2.heap.size) rfl
  have LSa := Loc.alloc LS2 (.cells #[.slice B0 x.dsk.length d0, .slice B1 x.prt.length d1, .slice B2 x.lns.length d2, .int .i64 x.mst] 35)
  clear hb2 O2 LS
  obtain ⟨s0, s1, s2, s3, sf⟩ := LSa.four
  obtain ⟨r0, r1, r2, r3, rf⟩ := LX2.four
  go_wp2_with fail
  go_region_held3 (fun w' => w'.cell? ⟨w1.heap.size, 0, none⟩ = some (.slice A0 t.dsk.length c0) ∧ w'.cell? ⟨w1.heap.size, 1, none⟩ = some (.slice A1 t.prt.length c1) ∧ w'.cell? ⟨w1.heap.size, 2, none⟩ = some (.slice A2 t.lns.length c2) ∧ w'.cell? ⟨w1.heap.size, 3, none⟩ = some (.int .i64 t.mst) ∧ w'.cell? ⟨w2.heap.size, 0, none⟩ = some (.slice B0 x.dsk.length d0) ∧ w'.cell? ⟨w2.heap.size, 1, none⟩ = some (.slice B1 x.prt.length d1) ∧ w'.cell? ⟨w2.heap.size, 2, none⟩ = some (.slice B2 x.lns.length d2) ∧ w'.cell? ⟨w2.heap.size, 3, none⟩ = some (.int .i64 x.mst)) (first | (with_reducible assumption) | (refine ⟨?_, ?_, ?_, ?_, ?_, ?_, ?_, ?_⟩ <;> with_reducible assumption) | go_keep | (refine ⟨?_, ?_, ?_, ?_, ?_, ?_, ?_, ?_⟩ <;> (simp [go_sem, *]; done))) (first
    | (go_at_call 24; go_must ((with_reducible refine (specWr_c _ _ _ _ t n a v _ (StackRd.below HS2.out (by repeat (first | with_reducible exact Below.refl _ _ | with_reducible refine below_drewN ?_ _ | with_reducible refine Below.drew ?_ | with_reducible refine Below.alloc ?_ ?_ _ | with_reducible refine Below.setCell ?_ ?_ _ | omega | (focus (simp; omega)) | (focus (simp; done))))) hszs.out).mono ?_); rw [← HX.out]; rintro e w3 ⟨p0, p1, p2, p3, rfl, O3, hb3⟩; have H3 := Lib.hid (StackOwn.rd O3); have LS3 := Loc.carryB LS2 (fun h => by ((repeat (first | with_reducible exact h | with_reducible refine Loc.drew ?_ | with_reducible refine Loc.drewN ?_ _ | with_reducible refine Loc.alloc ?_ _)); done)) hb3; obtain ⟨s0_3, s1_3, s2_3, s3_3, sf_3⟩ := LS3.four; have zS_3 := LS3.lt; have LX3 := Loc.carryB LX2 (fun h => by ((repeat (first | with_reducible exact h | with_reducible refine Loc.drew ?_ | with_reducible refine Loc.drewN ?_ _ | with_reducible refine Loc.alloc ?_ _)); done)) hb3; obtain ⟨r0_3, r1_3, r2_3, r3_3, rf_3⟩ := LX3.four; have zX_3 := LX3.lt; have HB3 : Hid (Below w.heap.size w w3) := Lib.hid (Below.next (W := w) (by repeat (first | with_reducible exact HB2.out | with_reducible exact Below.refl _ _ | with_reducible refine below_drewN ?_ _ | with_reducible refine Below.drew ?_ | with_reducible refine Below.alloc ?_ ?_ _ | with_reducible refine Below.setCell ?_ ?_ _ | (with_reducible refine Below.next ?_ (by assumption)) | ((with_reducible refine Below.far' (by assumption) ?_ ?_ ?_); (focus (first | omega | (simp; omega) | (simp; done))); (focus (first | omega | (simp; omega) | (simp; done)))) | omega | (focus (simp; omega)) | (focus (simp; done)))) hb3); have HS3 := Lib.hid (StackRd.below HS2.out (Below.next (by repeat (first | with_reducible exact Below.refl _ _ | with_reducible refine below_drewN ?_ _ | with_reducible refine Below.drew ?_ | with_reducible refine Below.alloc ?_ ?_ _ | with_reducible refine Below.setCell ?_ ?_ _ | omega | (focus (simp; omega)) | (focus (simp; done)))) hb3)); have HX3 := Lib.hid (StackRd.below HX2.out (Below.next (by repeat (first | with_reducible exact Below.refl _ _ | with_reducible refine below_drewN ?_ _ | with_reducible refine Below.drew ?_ | with_reducible refine Below.alloc ?_ ?_ _ | with_reducible refine Below.setCell ?_ ?_ _ | omega | (focus (simp; omega)) | (focus (simp; done)))) hb3)); have hz3 := hb3.size; (try simp at hz3); clear hb3; clear O3))
    | (go_at_call 34; go_must ((with_reducible refine (sameStack_c _ _ _ _ _ _ _ _ x _ (StackRd.below HX3.out (by repeat (first | with_reducible exact Below.refl _ _ | with_reducible refine below_drewN ?_ _ | with_reducible refine Below.drew ?_ | with_reducible refine Below.alloc ?_ ?_ _ | with_reducible refine Below.setCell ?_ ?_ _ | omega | (focus (simp; omega)) | (focus (simp; done))))) (StackRd.below H3.out (by repeat (first | with_reducible exact Below.refl _ _ | with_reducible refine below_drewN ?_ _ | with_reducible refine Below.drew ?_ | with_reducible refine Below.alloc ?_ ?_ _ | with_reducible refine Below.setCell ?_ ?_ _ | omega | (focus (simp; omega)) | (focus (simp; done))))) hxsz.out).mono ?_); rintro e w4 ⟨rfl, hb4⟩; have LS4 := Loc.carryB LS3 (fun h => by ((repeat (first | with_reducible exact h | with_reducible refine Loc.drew ?_ | with_reducible refine Loc.drewN ?_ _ | with_reducible refine Loc.alloc ?_ _)); done)) hb4; obtain ⟨s0_4, s1_4, s2_4, s3_4, sf_4⟩ := LS4.four; have zS_4 := LS4.lt; have LX4 := Loc.carryB LX3 (fun h => by ((repeat (first | with_reducible exact h | with_reducible refine Loc.drew ?_ | with_reducible refine Loc.drewN ?_ _ | with_reducible refine Loc.alloc ?_ _)); done)) hb4; obtain ⟨r0_4, r1_4, r2_4, r3_4, rf_4⟩ := LX4.four; have zX_4 := LX4.lt; have HB4 : Hid (Below w.heap.size w w4) := Lib.hid (Below.next (W := w) (by repeat (first | with_reducible exact HB3.out | with_reducible exact Below.refl _ _ | with_reducible refine below_drewN ?_ _ | with_reducible refine Below.drew ?_ | with_reducible refine Below.alloc ?_ ?_ _ | with_reducible refine Below.setCell ?_ ?_ _ | (with_reducible refine Below.next ?_ (by assumption)) | ((with_reducible refine Below.far' (by assumption) ?_ ?_ ?_); (focus (first | omega | (simp; omega) | (simp; done))); (focus (first | omega | (simp; omega) | (simp; done)))) | omega | (focus (simp; omega)) | (focus (simp; done)))) hb4); have HS4 := Lib.hid (StackRd.below HS3.out (Below.next (by repeat (first | with_reducible exact Below.refl _ _ | with_reducible refine below_drewN ?_ _ | with_reducible refine Below.drew ?_ | with_reducible refine Below.alloc ?_ ?_ _ | with_reducible refine Below.setCell ?_ ?_ _ | omega | (focus (simp; omega)) | (focus (simp; done)))) hb4)); have HX4 := Lib.hid (StackRd.below HX3.out (Below.next (by repeat (first | with_reducible exact Below.refl _ _ | with_reducible refine below_drewN ?_ _ | with_reducible refine Below.drew ?_ | with_reducible refine Below.alloc ?_ ?_ _ | with_reducible refine Below.setCell ?_ ?_ _ | omega | (focus (simp; omega)) | (focus (simp; done)))) hb4)); have hz4 := hb4.size; (try simp at hz4); clear hb4)))
  clear s0 s1 s2 s3 sf r0 r1 r2 r3 rf LSa LS2 LX2 LS3 LX3 HS1 HS2 HS3 HX2 HX3 H3 HB1 HB2 HB3 s0_3 s1_3 s2_3 s3_3 sf_3 r0_3 r1_3 r2_3 r3_3 rf_3
  by_cases h0 : x.dsk.length = 0
  · have h0' : ((x.dsk.length : Int) == 0) = true := by simp [h0]
    clear h0
    go_wp2_with (go_at_call 31; refine (alive_any _).mono ?_; rintro e w6 ⟨rfl, hb6⟩)
    go_ret
    exact ⟨rfl, Below.next (W := w) HB4.out hb6⟩
  · have h0' : ((x.dsk.length : Int) == 0) = false := by rw [beq_eq_false_iff_ne]; omega
    have hok : writeOk t n a v = true := write_dsk0 (by rw [← HX.out]; omega)
    obtain ⟨hxv, -, -, hxw⟩ := write_view hok
    have hxr := write_read hok
    obtain ⟨hst, hv255, kn, i, hkn, rfl, rfl, hi, -, -⟩ := write_good hok
    rw [← HX.out] at hxv hxw hxr
    have HXV := Lib.hid hxv
    have HXW := Lib.hid hxw
    have HXR := Lib.hid hxr
    have HCV := Lib.hid (cache_iff.1 (stack_true.1 hst).2.2)
    have hpv := fun p => partV_size t p
    have HPZ := Lib.hid hpv
    have HPD := Lib.hid (fun (k : Nat) (hk : k < t.prt.length) => partV_disk hst hk)
    have HI := Lib.hid hi
    have HV2 := Lib.hid hv255
    clear hxv hxw hxr hst hpv hi hv255 hok h0
    obtain ⟨s0, s1, s2, s3, sf⟩ := LS4.four
    clear s0 s1 s2 s3 sf
    go_wp2
    go_loopw [8] (fun i wr => ∃ k : Nat, k ≤ t.prt.length ∧ i = .int .i64 k ∧ Loc wr w1.heap.size [.slice A0 t.dsk.length c0, .slice A1 t.prt.length c1, .slice A2 t.lns.length c2, .int .i64 t.mst] ∧ Loc wr w2.heap.size [.slice B0 x.dsk.length d0, .slice B1 x.prt.length d1, .slice B2 x.lns.length d2, .int .i64 x.mst] ∧ Below w.heap.size w wr ∧ StackRd wr [.slice A0 t.dsk.length c0, .slice A1 t.prt.length c1, .slice A2 t.lns.length c2, .int .i64 t.mst] t ∧ StackRd wr [.slice B0 x.dsk.length d0, .slice B1 x.prt.length d1, .slice B2 x.lns.length d2, .int .i64 x.mst] x) (fun i _ => t.prt.length - (intOf i).toNat)
    case atStart => exact ⟨0, Nat.zero_le _, rfl, LS4, LX4, HB4.out, HS4.out, HX4.out⟩
    case round =>
      clear LS4 LX4 HB4 HS4 HX4 s0_4 s1_4 s2_4 s3_4 sf_4 r0_4 r1_4 r2_4 r3_4 rf_4
      obtain ⟨k, hk, rfl, LS6, LX6, hbw, hsr, hxr⟩ := hrel
      obtain ⟨w6, hwa⟩ : ∃ x, x = wr := ⟨_, rfl⟩
      subst hwa
      have HB6 := Lib.hid hbw
      have HS6 := Lib.hid hsr
      have HX6 := Lib.hid hxr
      have zS := LS6.lt
      have zX := LX6.lt
      obtain ⟨s0, s1, s2, s3, sf⟩ := LS6.four
      obtain ⟨r0, r1, r2, r3, rf⟩ := LX6.four
      clear hbw hsr hxr
      by_cases hlt : k < t.prt.length
      · go_wp2_with fail
        refine (clean_c _ _ t.lns t.mst t.dsk _ (SRd.below HS6.out.parts.2.2 (by repeat (first | with_reducible exact Below.refl _ _ | with_reducible refine below_drewN ?_ _ | with_reducible refine Below.drew ?_ | with_reducible refine Below.alloc ?_ ?_ _ | with_reducible refine Below.setCell ?_ ?_ _ | omega | (focus (simp; omega)) | (focus (simp; done))))) (SRd.below HS6.out.parts.1 (by repeat (first | with_reducible exact Below.refl _ _ | with_reducible refine below_drewN ?_ _ | with_reducible refine Below.drew ?_ | with_reducible refine Below.alloc ?_ ?_ _ | with_reducible refine Below.setCell ?_ ?_ _ | omega | (focus (simp; omega)) | (focus (simp; done))))) HCV.out).mono ?_
        rintro e w7 ⟨rfl, hb7⟩
        have HXW' := HXW
        obtain ⟨cl, hcl⟩ : ∃ cl, cl = cleanB t.lns t.dsk := ⟨_, rfl⟩
        rw [← hcl] at HXW' ⊢
        clear hcl s0 s1 s2 s3 sf r0 r1 r2 r3 rf
        have LS7 := Loc.carryB LS6 (fun h => by ((repeat (first | with_reducible exact h | with_reducible refine Loc.drew ?_ | with_reducible refine Loc.drewN ?_ _ | with_reducible refine Loc.alloc ?_ _)); done)) hb7; obtain ⟨s0_7, s1_7, s2_7, s3_7, sf_7⟩ := LS7.four; have zS_7 := LS7.lt; have LX7 := Loc.carryB LX6 (fun h => by ((repeat (first | with_reducible exact h | with_reducible refine Loc.drew ?_ | with_reducible refine Loc.drewN ?_ _ | with_reducible refine Loc.alloc ?_ _)); done)) hb7; obtain ⟨r0_7, r1_7, r2_7, r3_7, rf_7⟩ := LX7.four; have zX_7 := LX7.lt; have HB7 : Hid (Below w.heap.size w w7) := Lib.hid (Below.next (W := w) (by repeat (first | with_reducible exact HB6.out | with_reducible exact Below.refl _ _ | with_reducible refine below_drewN ?_ _ | with_reducible refine Below.drew ?_ | with_reducible refine Below.alloc ?_ ?_ _ | with_reducible refine Below.setCell ?_ ?_ _ | (with_reducible refine Below.next ?_ (by assumption)) | ((with_reducible refine Below.far' (by assumption) ?_ ?_ ?_); (focus (first | omega | (simp; omega) | (simp; done))); (focus (first | omega | (simp; omega) | (simp; done)))) | omega | (focus (simp; omega)) | (focus (simp; done)))) hb7); have HS7 := Lib.hid (StackRd.below HS6.out (Below.next (by repeat (first | with_reducible exact Below.refl _ _ | with_reducible refine below_drewN ?_ _ | with_reducible refine Below.drew ?_ | with_reducible refine Below.alloc ?_ ?_ _ | with_reducible refine Below.setCell ?_ ?_ _ | omega | (focus (simp; omega)) | (focus (simp; done)))) hb7)); have HX7 := Lib.hid (StackRd.below HX6.out (Below.next (by repeat (first | with_reducible exact Below.refl _ _ | with_reducible refine below_drewN ?_ _ | with_reducible refine Below.drew ?_ | with_reducible refine Below.alloc ?_ ?_ _ | with_reducible refine Below.setCell ?_ ?_ _ | omega | (focus (simp; omega)) | (focus (simp; done)))) hb7)); have hz7 := hb7.size; (try simp at hz7); clear hb7
        cases cl
        · go_wp2_with fail
          refine (implRd_c _ _ _ _ x kn i _ (StackRd.below HX7.out (by repeat (first | with_reducible exact Below.refl _ _ | with_reducible refine below_drewN ?_ _ | with_reducible refine Below.drew ?_ | with_reducible refine Below.alloc ?_ ?_ _ | with_reducible refine Below.setCell ?_ ?_ _ | omega | (focus (simp; omega)) | (focus (simp; done))))) hxsz.out).mono ?_
          rw [HXR.out]
          rintro e w20 ⟨p0, p1, p2, p3, rfl, O20, hb20⟩
          obtain ⟨P0, g0, P1, g1, P2, g2, f0, f1, f2, f3⟩ := id O20.rd.mst
          subst f0 f1 f2 f3
          clear O20
          have LS20 := Loc.carryB LS7 (fun h => by ((repeat (first | with_reducible exact h | with_reducible refine Loc.drew ?_ | with_reducible refine Loc.drewN ?_ _ | with_reducible refine Loc.alloc ?_ _)); done)) hb20; obtain ⟨s0_20, s1_20, s2_20, s3_20, sf_20⟩ := LS20.four; have zS_20 := LS20.lt; have LX20 := Loc.carryB LX7 (fun h => by ((repeat (first | with_reducible exact h | with_reducible refine Loc.drew ?_ | with_reducible refine Loc.drewN ?_ _ | with_reducible refine Loc.alloc ?_ _)); done)) hb20; obtain ⟨r0_20, r1_20, r2_20, r3_20, rf_20⟩ := LX20.four; have zX_20 := LX20.lt; have HB20 : Hid (Below w.heap.size w w20) := Lib.hid (Below.next (W := w) (by repeat (first | with_reducible exact HB7.out | with_reducible exact Below.refl _ _ | with_reducible refine below_drewN ?_ _ | with_reducible refine Below.drew ?_ | with_reducible refine Below.alloc ?_ ?_ _ | with_reducible refine Below.setCell ?_ ?_ _ | (with_reducible refine Below.next ?_ (by assumption)) | ((with_reducible refine Below.far' (by assumption) ?_ ?_ ?_); (focus (first | omega | (simp; omega) | (simp; done))); (focus (first | omega | (simp; omega) | (simp; done)))) | omega | (focus (simp; omega)) | (focus (simp; done)))) hb20); have HS20 := Lib.hid (StackRd.below HS7.out (Below.next (by repeat (first | with_reducible exact Below.refl _ _ | with_reducible refine below_drewN ?_ _ | with_reducible refine Below.drew ?_ | with_reducible refine Below.alloc ?_ ?_ _ | with_reducible refine Below.setCell ?_ ?_ _ | omega | (focus (simp; omega)) | (focus (simp; done)))) hb20)); have HX20 := Lib.hid (StackRd.below HX7.out (Below.next (by repeat (first | with_reducible exact Below.refl _ _ | with_reducible refine below_drewN ?_ _ | with_reducible refine Below.drew ?_ | with_reducible refine Below.alloc ?_ ?_ _ | with_reducible refine Below.setCell ?_ ?_ _ | omega | (focus (simp; omega)) | (focus (simp; done)))) hb20)); have hz20 := hb20.size; (try simp at hz20); clear hb20
          go_wp2_with fail
          refine (implStack_c _ _ _ _ x _ (StackRd.below HX20.out (by repeat (first | with_reducible exact Below.refl _ _ | with_reducible refine below_drewN ?_ _ | with_reducible refine Below.drew ?_ | with_reducible refine Below.alloc ?_ ?_ _ | with_reducible refine Below.setCell ?_ ?_ _ | omega | (focus (simp; omega)) | (focus (simp; done))))) hxsz.out).mono ?_
          rw [HXV.out]
          rintro e w21 ⟨rfl, hb21⟩
          go_wp2
          go_ret
          exact ⟨rfl, Below.next (W := w) (by repeat (first | with_reducible exact HB20.out | with_reducible exact Below.refl _ _ | with_reducible refine below_drewN ?_ _ | with_reducible refine Below.drew ?_ | with_reducible refine Below.alloc ?_ ?_ _ | with_reducible refine Below.setCell ?_ ?_ _ | (with_reducible refine Below.next ?_ (by assumption)) | ((with_reducible refine Below.far' (by assumption) ?_ ?_ ?_); (focus (first | omega | (simp; omega) | (simp; done))); (focus (first | omega | (simp; omega) | (simp; done)))) | omega | (focus (simp; omega)) | (focus (simp; done)))) hb21⟩
        · obtain ⟨vk, hvk⟩ : ∃ vk, vk = partV t k := ⟨_, rfl⟩
          have HVK := Lib.hid hvk
          have hvkl : vk.length ≤ 1000 := by have := HPZ.out k; rw [← hvk] at this; omega
          have HVD : Hid (diskB vk = true) := Lib.hid (by rw [hvk]; exact HPD.out k hlt)
          have hxe := (HXW'.out rfl).2 k hlt
          rw [← hvk] at hxe
          have HXE := Lib.hid hxe
          clear hvk hxe
          go_wp2_with fail
          refine (implPV_c _ _ _ _ t k _ (StackRd.below HS7.out (by repeat (first | with_reducible exact Below.refl _ _ | with_reducible refine below_drewN ?_ _ | with_reducible refine Below.drew ?_ | with_reducible refine Below.alloc ?_ ?_ _ | with_reducible refine Below.setCell ?_ ?_ _ | omega | (focus (simp; omega)) | (focus (simp; done))))) hszs.out).mono ?_
          rw [← HVK.out]
          rintro e w8 ⟨u8, rfl, o8, hb8⟩
          obtain ⟨A8, c8, gg8, rfl, -, -⟩ := id o8
          have H8 := Lib.hid (SOwn.rd o8)
          clear o8 s0_7 s1_7 s2_7 s3_7 sf_7 r0_7 r1_7 r2_7 r3_7 rf_7
          have LS8 := Loc.carryB LS7 (fun h => by ((repeat (first | with_reducible exact h | with_reducible refine Loc.drew ?_ | with_reducible refine Loc.drewN ?_ _ | with_reducible refine Loc.alloc ?_ _)); done)) hb8; obtain ⟨s0_8, s1_8, s2_8, s3_8, sf_8⟩ := LS8.four; have zS_8 := LS8.lt; have LX8 := Loc.carryB LX7 (fun h => by ((repeat (first | with_reducible exact h | with_reducible refine Loc.drew ?_ | with_reducible refine Loc.drewN ?_ _ | with_reducible refine Loc.alloc ?_ _)); done)) hb8; obtain ⟨r0_8, r1_8, r2_8, r3_8, rf_8⟩ := LX8.four; have zX_8 := LX8.lt; have HB8 : Hid (Below w.heap.size w w8) := Lib.hid (Below.next (W := w) (by repeat (first | with_reducible exact HB7.out | with_reducible exact Below.refl _ _ | with_reducible refine below_drewN ?_ _ | with_reducible refine Below.drew ?_ | with_reducible refine Below.alloc ?_ ?_ _ | with_reducible refine Below.setCell ?_ ?_ _ | (with_reducible refine Below.next ?_ (by assumption)) | ((with_reducible refine Below.far' (by assumption) ?_ ?_ ?_); (focus (first | omega | (simp; omega) | (simp; done))); (focus (first | omega | (simp; omega) | (simp; done)))) | omega | (focus (simp; omega)) | (focus (simp; done)))) hb8); have HS8 := Lib.hid (StackRd.below HS7.out (Below.next (by repeat (first | with_reducible exact Below.refl _ _ | with_reducible refine below_drewN ?_ _ | with_reducible refine Below.drew ?_ | with_reducible refine Below.alloc ?_ ?_ _ | with_reducible refine Below.setCell ?_ ?_ _ | omega | (focus (simp; omega)) | (focus (simp; done)))) hb8)); have HX8 := Lib.hid (StackRd.below HX7.out (Below.next (by repeat (first | with_reducible exact Below.refl _ _ | with_reducible refine below_drewN ?_ _ | with_reducible refine Below.drew ?_ | with_reducible refine Below.alloc ?_ ?_ _ | with_reducible refine Below.setCell ?_ ?_ _ | omega | (focus (simp; omega)) | (focus (simp; done)))) hb8)); have hz8 := hb8.size; (try simp at hz8); clear hb8
          by_cases hkk : (k : Int) = (kn : Int)
          · have hkk' : ((k : Int) == (kn : Int)) = true := by simp [hkk]
            have hkn' : k = kn := by omega
            obtain ⟨vs, hvs⟩ : ∃ vs, vs = vk.set i v := ⟨_, rfl⟩
            have HVS := Lib.hid hvs
            have HXE2 : Hid (partV x k = vs) := Lib.hid (by rw [HXE.out, if_pos hkk.symm, hvs]; simp)
            have hsl : vs.length = vk.length := by rw [hvs]; exact List.length_set
            have hik : i < vk.length := by rw [HVK.out, hkn']; exact HI.out
            have hsl2 : vs.length ≤ 1000 := by omega
            clear hkk hkn' hvs hsl
            go_wp2_with fail
            refine (write1_srd i v HVS.out (SRd.below H8.out (by repeat (first | with_reducible exact Below.refl _ _ | with_reducible refine below_drewN ?_ _ | with_reducible refine Below.drew ?_ | with_reducible refine Below.alloc ?_ ?_ _ | with_reducible refine Below.setCell ?_ ?_ _ | omega | (focus (simp; omega)) | (focus (simp; done))))) (by repeat (first | ((with_reducible refine Rd.lit ?_ ?_); (focus (first | with_reducible rfl | omega | (simp; omega) | (simp; done))); (focus (first | rfl | (simp; rfl) | (simp; done)))) | with_reducible refine Rd.drew ?_ | with_reducible refine Rd.drewN ?_ _ | with_reducible refine Rd.alloc ?_ _ | (with_reducible refine Rd.below ?_ (by assumption)))) HVD.out hik HV2.out).mono ?_
            rintro e w9 ⟨u9, rfl, o9, hb9⟩
            obtain ⟨A9, c9, gg9, rfl, -, -⟩ := id o9
            have H9 := Lib.hid (SOwn.rd o9)
            clear o9 s0_8 s1_8 s2_8 s3_8 sf_8 r0_8 r1_8 r2_8 r3_8 rf_8
            have LS9 := Loc.carryB LS8 (fun h => by ((repeat (first | with_reducible exact h | with_reducible refine Loc.drew ?_ | with_reducible refine Loc.drewN ?_ _ | with_reducible refine Loc.alloc ?_ _)); done)) hb9; obtain ⟨s0_9, s1_9, s2_9, s3_9, sf_9⟩ := LS9.four; have zS_9 := LS9.lt; have LX9 := Loc.carryB LX8 (fun h => by ((repeat (first | with_reducible exact h | with_reducible refine Loc.drew ?_ | with_reducible refine Loc.drewN ?_ _ | with_reducible refine Loc.alloc ?_ _)); done)) hb9; obtain ⟨r0_9, r1_9, r2_9, r3_9, rf_9⟩ := LX9.four; have zX_9 := LX9.lt; have HB9 : Hid (Below w.heap.size w w9) := Lib.hid (Below.next (W := w) (by repeat (first | with_reducible exact HB8.out | with_reducible exact Below.refl _ _ | with_reducible refine below_drewN ?_ _ | with_reducible refine Below.drew ?_ | with_reducible refine Below.alloc ?_ ?_ _ | with_reducible refine Below.setCell ?_ ?_ _ | (with_reducible refine Below.next ?_ (by assumption)) | ((with_reducible refine Below.far' (by assumption) ?_ ?_ ?_); (focus (first | omega | (simp; omega) | (simp; done))); (focus (first | omega | (simp; omega) | (simp; done)))) | omega | (focus (simp; omega)) | (focus (simp; done)))) hb9); have HS9 := Lib.hid (StackRd.below HS8.out (Below.next (by repeat (first | with_reducible exact Below.refl _ _ | with_reducible refine below_drewN ?_ _ | with_reducible refine Below.drew ?_ | with_reducible refine Below.alloc ?_ ?_ _ | with_reducible refine Below.setCell ?_ ?_ _ | omega | (focus (simp; omega)) | (focus (simp; done)))) hb9)); have HX9 := Lib.hid (StackRd.below HX8.out (Below.next (by repeat (first | with_reducible exact Below.refl _ _ | with_reducible refine below_drewN ?_ _ | with_reducible refine Below.drew ?_ | with_reducible refine Below.alloc ?_ ?_ _ | with_reducible refine Below.setCell ?_ ?_ _ | omega | (focus (simp; omega)) | (focus (simp; done)))) hb9)); have hz9 := hb9.size; (try simp at hz9); clear hb9
            go_wp2_with fail
            refine (implPV_c _ _ _ _ x k _ (StackRd.below HX9.out (by repeat (first | with_reducible exact Below.refl _ _ | with_reducible refine below_drewN ?_ _ | with_reducible refine Below.drew ?_ | with_reducible refine Below.alloc ?_ ?_ _ | with_reducible refine Below.setCell ?_ ?_ _ | omega | (focus (simp; omega)) | (focus (simp; done))))) hxsz.out).mono ?_
            rw [HXE2.out]
            rintro e w10 ⟨u10, rfl, o10, hb10⟩
            obtain ⟨A10, c10, gg10, rfl, -, -⟩ := id o10
            have H10 := Lib.hid (SOwn.rd o10)
            have H910 := Lib.hid (SRd.below H9.out (Below.next (by repeat (first | with_reducible exact Below.refl _ _ | with_reducible refine below_drewN ?_ _ | with_reducible refine Below.drew ?_ | with_reducible refine Below.alloc ?_ ?_ _ | with_reducible refine Below.setCell ?_ ?_ _ | omega | (focus (simp; omega)) | (focus (simp; done)))) hb10))
            clear o10 s0_9 s1_9 s2_9 s3_9 sf_9 r0_9 r1_9 r2_9 r3_9 rf_9
            have LS10 := Loc.carryB LS9 (fun h => by ((repeat (first | with_reducible exact h | with_reducible refine Loc.drew ?_ | with_reducible refine Loc.drewN ?_ _ | with_reducible refine Loc.alloc ?_ _)); done)) hb10; obtain ⟨s0_10, s1_10, s2_10, s3_10, sf_10⟩ := LS10.four; have zS_10 := LS10.lt; have LX10 := Loc.carryB LX9 (fun h => by ((repeat (first | with_reducible exact h | with_reducible refine Loc.drew ?_ | with_reducible refine Loc.drewN ?_ _ | with_reducible refine Loc.alloc ?_ _)); done)) hb10; obtain ⟨r0_10, r1_10, r2_10, r3_10, rf_10⟩ := LX10.four; have zX_10 := LX10.lt; have HB10 : Hid (Below w.heap.size w w10) := Lib.hid (Below.next (W := w) (by repeat (first | with_reducible exact HB9.out | with_reducible exact Below.refl _ _ | with_reducible refine below_drewN ?_ _ | with_reducible refine Below.drew ?_ | with_reducible refine Below.alloc ?_ ?_ _ | with_reducible refine Below.setCell ?_ ?_ _ | (with_reducible refine Below.next ?_ (by assumption)) | ((with_reducible refine Below.far' (by assumption) ?_ ?_ ?_); (focus (first | omega | (simp; omega) | (simp; done))); (focus (first | omega | (simp; omega) | (simp; done)))) | omega | (focus (simp; omega)) | (focus (simp; done)))) hb10); have HS10 := Lib.hid (StackRd.below HS9.out (Below.next (by repeat (first | with_reducible exact Below.refl _ _ | with_reducible refine below_drewN ?_ _ | with_reducible refine Below.drew ?_ | with_reducible refine Below.alloc ?_ ?_ _ | with_reducible refine Below.setCell ?_ ?_ _ | omega | (focus (simp; omega)) | (focus (simp; done)))) hb10)); have HX10 := Lib.hid (StackRd.below HX9.out (Below.next (by repeat (first | with_reducible exact Below.refl _ _ | with_reducible refine below_drewN ?_ _ | with_reducible refine Below.drew ?_ | with_reducible refine Below.alloc ?_ ?_ _ | with_reducible refine Below.setCell ?_ ?_ _ | omega | (focus (simp; omega)) | (focus (simp; done)))) hb10)); have hz10 := hb10.size; (try simp at hz10); clear hb10
            go_wp2_with fail
            refine (sameInts_v _ _ vs vs _ (SRd.below H10.out (by repeat (first | with_reducible exact Below.refl _ _ | with_reducible refine below_drewN ?_ _ | with_reducible refine Below.drew ?_ | with_reducible refine Below.alloc ?_ ?_ _ | with_reducible refine Below.setCell ?_ ?_ _ | omega | (focus (simp; omega)) | (focus (simp; done))))) (SRd.below H910.out (by repeat (first | with_reducible exact Below.refl _ _ | with_reducible refine below_drewN ?_ _ | with_reducible refine Below.drew ?_ | with_reducible refine Below.alloc ?_ ?_ _ | with_reducible refine Below.setCell ?_ ?_ _ | omega | (focus (simp; omega)) | (focus (simp; done))))) (by omega) (by omega)).mono ?_
            rw [dec_reflK]
            rintro e w11 ⟨rfl, q11, rfl⟩
            go_wp2
            go_roundw
            case rel => exact ⟨k + 1, by omega, by go_num, Loc.drewN LS10 _, Loc.drewN LX10 _, below_drewN HB10.out _, StackRd.below HS10.out (by repeat (first | with_reducible exact Below.refl _ _ | with_reducible refine below_drewN ?_ _ | with_reducible refine Below.drew ?_ | with_reducible refine Below.alloc ?_ ?_ _ | with_reducible refine Below.setCell ?_ ?_ _ | omega | (focus (simp; omega)) | (focus (simp; done)))), StackRd.below HX10.out (by repeat (first | with_reducible exact Below.refl _ _ | with_reducible refine below_drewN ?_ _ | with_reducible refine Below.drew ?_ | with_reducible refine Below.alloc ?_ ?_ _ | with_reducible refine Below.setCell ?_ ?_ _ | omega | (focus (simp; omega)) | (focus (simp; done))))⟩
            case measure => simp [intOf]; omega
          · have hkk' : ((k : Int) == (kn : Int)) = false := by simpa using hkk
            have HXE2 : Hid (partV x k = vk) := Lib.hid (by rw [HXE.out, if_neg (Ne.symm hkk)])
            clear hkk
            go_wp2_with fail
            refine (implPV_c _ _ _ _ x k _ (StackRd.below HX8.out (by repeat (first | with_reducible exact Below.refl _ _ | with_reducible refine below_drewN ?_ _ | with_reducible refine Below.drew ?_ | with_reducible refine Below.alloc ?_ ?_ _ | with_reducible refine Below.setCell ?_ ?_ _ | omega | (focus (simp; omega)) | (focus (simp; done))))) hxsz.out).mono ?_
            rw [HXE2.out]
            rintro e w10 ⟨u10, rfl, o10, hb10⟩
            obtain ⟨A10, c10, gg10, rfl, -, -⟩ := id o10
            have H10 := Lib.hid (SOwn.rd o10)
            have H810 := Lib.hid (SRd.below H8.out (Below.next (by repeat (first | with_reducible exact Below.refl _ _ | with_reducible refine below_drewN ?_ _ | with_reducible refine Below.drew ?_ | with_reducible refine Below.alloc ?_ ?_ _ | with_reducible refine Below.setCell ?_ ?_ _ | omega | (focus (simp; omega)) | (focus (simp; done)))) hb10))
            clear o10 s0_8 s1_8 s2_8 s3_8 sf_8 r0_8 r1_8 r2_8 r3_8 rf_8
            have LS10 := Loc.carryB LS8 (fun h => by ((repeat (first | with_reducible exact h | with_reducible refine Loc.drew ?_ | with_reducible refine Loc.drewN ?_ _ | with_reducible refine Loc.alloc ?_ _)); done)) hb10; obtain ⟨s0_10, s1_10, s2_10, s3_10, sf_10⟩ := LS10.four; have zS_10 := LS10.lt; have LX10 := Loc.carryB LX8 (fun h => by ((repeat (first | with_reducible exact h | with_reducible refine Loc.drew ?_ | with_reducible refine Loc.drewN ?_ _ | with_reducible refine Loc.alloc ?_ _)); done)) hb10; obtain ⟨r0_10, r1_10, r2_10, r3_10, rf_10⟩ := LX10.four; have zX_10 := LX10.lt; have HB10 : Hid (Below w.heap.size w w10) := Lib.hid (Below.next (W := w) (by repeat (first | with_reducible exact HB8.out | with_reducible exact Below.refl _ _ | with_reducible refine below_drewN ?_ _ | with_reducible refine Below.drew ?_ | with_reducible refine Below.alloc ?_ ?_ _ | with_reducible refine Below.setCell ?_ ?_ _ | (with_reducible refine Below.next ?_ (by assumption)) | ((with_reducible refine Below.far' (by assumption) ?_ ?_ ?_); (focus (first | omega | (simp; omega) | (simp; done))); (focus (first | omega | (simp; omega) | (simp; done)))) | omega | (focus (simp; omega)) | (focus (simp; done)))) hb10); have HS10 := Lib.hid (StackRd.below HS8.out (Below.next (by repeat (first | with_reducible exact Below.refl _ _ | with_reducible refine below_drewN ?_ _ | with_reducible refine Below.drew ?_ | with_reducible refine Below.alloc ?_ ?_ _ | with_reducible refine Below.setCell ?_ ?_ _ | omega | (focus (simp; omega)) | (focus (simp; done)))) hb10)); have HX10 := Lib.hid (StackRd.below HX8.out (Below.next (by repeat (first | with_reducible exact Below.refl _ _ | with_reducible refine below_drewN ?_ _ | with_reducible refine Below.drew ?_ | with_reducible refine Below.alloc ?_ ?_ _ | with_reducible refine Below.setCell ?_ ?_ _ | omega | (focus (simp; omega)) | (focus (simp; done)))) hb10)); have hz10 := hb10.size; (try simp at hz10); clear hb10
            go_wp2_with fail
            refine (sameInts_v _ _ vk vk _ (SRd.below H10.out (by repeat (first | with_reducible exact Below.refl _ _ | with_reducible refine below_drewN ?_ _ | with_reducible refine Below.drew ?_ | with_reducible refine Below.alloc ?_ ?_ _ | with_reducible refine Below.setCell ?_ ?_ _ | omega | (focus (simp; omega)) | (focus (simp; done))))) (SRd.below H810.out (by repeat (first | with_reducible exact Below.refl _ _ | with_reducible refine below_drewN ?_ _ | with_reducible refine Below.drew ?_ | with_reducible refine Below.alloc ?_ ?_ _ | with_reducible refine Below.setCell ?_ ?_ _ | omega | (focus (simp; omega)) | (focus (simp; done))))) (by omega) (by omega)).mono ?_
            rw [dec_reflK]
            rintro e w11 ⟨rfl, q11, rfl⟩
            go_wp2
            go_roundw
            case rel => exact ⟨k + 1, by omega, by go_num, Loc.drewN LS10 _, Loc.drewN LX10 _, below_drewN HB10.out _, StackRd.below HS10.out (by repeat (first | with_reducible exact Below.refl _ _ | with_reducible refine below_drewN ?_ _ | with_reducible refine Below.drew ?_ | with_reducible refine Below.alloc ?_ ?_ _ | with_reducible refine Below.setCell ?_ ?_ _ | omega | (focus (simp; omega)) | (focus (simp; done)))), StackRd.below HX10.out (by repeat (first | with_reducible exact Below.refl _ _ | with_reducible refine below_drewN ?_ _ | with_reducible refine Below.drew ?_ | with_reducible refine Below.alloc ?_ ?_ _ | with_reducible refine Below.setCell ?_ ?_ _ | omega | (focus (simp; omega)) | (focus (simp; done))))⟩
            case measure => simp [intOf]; omega
      · go_wp2_with fail
        refine (implRd_c _ _ _ _ x kn i _ (StackRd.below HX6.out (by repeat (first | with_reducible exact Below.refl _ _ | with_reducible refine below_drewN ?_ _ | with_reducible refine Below.drew ?_ | with_reducible refine Below.alloc ?_ ?_ _ | with_reducible refine Below.setCell ?_ ?_ _ | omega | (focus (simp; omega)) | (focus (simp; done))))) hxsz.out).mono ?_
        rw [HXR.out]
        rintro e w20 ⟨p0, p1, p2, p3, rfl, O20, hb20⟩
        obtain ⟨P0, g0, P1, g1, P2, g2, f0, f1, f2, f3⟩ := id O20.rd.mst
        subst f0 f1 f2 f3
        clear O20
        have LS20 := Loc.carryB LS6 (fun h => by ((repeat (first | with_reducible exact h | with_reducible refine Loc.drew ?_ | with_reducible refine Loc.drewN ?_ _ | with_reducible refine Loc.alloc ?_ _)); done)) hb20; obtain ⟨s0_20, s1_20, s2_20, s3_20, sf_20⟩ := LS20.four; have zS_20 := LS20.lt; have LX20 := Loc.carryB LX6 (fun h => by ((repeat (first | with_reducible exact h | with_reducible refine Loc.drew ?_ | with_reducible refine Loc.drewN ?_ _ | with_reducible refine Loc.alloc ?_ _)); done)) hb20; obtain ⟨r0_20, r1_20, r2_20, r3_20, rf_20⟩ := LX20.four; have zX_20 := LX20.lt; have HB20 : Hid (Below w.heap.size w w20) := Lib.hid (Below.next (W := w) (by repeat (first | with_reducible exact HB6.out | with_reducible exact Below.refl _ _ | with_reducible refine below_drewN ?_ _ | with_reducible refine Below.drew ?_ | with_reducible refine Below.alloc ?_ ?_ _ | with_reducible refine Below.setCell ?_ ?_ _ | (with_reducible refine Below.next ?_ (by assumption)) | ((with_reducible refine Below.far' (by assumption) ?_ ?_ ?_); (focus (first | omega | (simp; omega) | (simp; done))); (focus (first | omega | (simp; omega) | (simp; done)))) | omega | (focus (simp; omega)) | (focus (simp; done)))) hb20); have HS20 := Lib.hid (StackRd.below HS6.out (Below.next (by repeat (first | with_reducible exact Below.refl _ _ | with_reducible refine below_drewN ?_ _ | with_reducible refine Below.drew ?_ | with_reducible refine Below.alloc ?_ ?_ _ | with_reducible refine Below.setCell ?_ ?_ _ | omega | (focus (simp; omega)) | (focus (simp; done)))) hb20)); have HX20 := Lib.hid (StackRd.below HX6.out (Below.next (by repeat (first | with_reducible exact Below.refl _ _ | with_reducible refine below_drewN ?_ _ | with_reducible refine Below.drew ?_ | with_reducible refine Below.alloc ?_ ?_ _ | with_reducible refine Below.setCell ?_ ?_ _ | omega | (focus (simp; omega)) | (focus (simp; done)))) hb20)); have hz20 := hb20.size; (try simp at hz20); clear hb20
        go_wp2_with fail
        refine (implStack_c _ _ _ _ x _ (StackRd.below HX20.out (by repeat (first | with_reducible exact Below.refl _ _ | with_reducible refine below_drewN ?_ _ | with_reducible refine Below.drew ?_ | with_reducible refine Below.alloc ?_ ?_ _ | with_reducible refine Below.setCell ?_ ?_ _ | omega | (focus (simp; omega)) | (focus (simp; done))))) hxsz.out).mono ?_
        rw [HXV.out]
        rintro e w21 ⟨rfl, hb21⟩
        go_wp2
        go_ret
        exact ⟨rfl, Below.next (W := w) (by repeat (first | with_reducible exact HB20.out | with_reducible exact Below.refl _ _ | with_reducible refine below_drewN ?_ _ | with_reducible refine Below.drew ?_ | with_reducible refine Below.alloc ?_ ?_ _ | with_reducible refine Below.setCell ?_ ?_ _ | (with_reducible refine Below.next ?_ (by assumption)) | ((with_reducible refine Below.far' (by assumption) ?_ ?_ ?_); (focus (first | omega | (simp; omega) | (simp; done))); (focus (first | omega | (simp; omega) | (simp; done)))) | omega | (focus (simp; omega)) | (focus (simp; done)))) hb21⟩
set_option maxRecDepth 100000 in
theorem lifted (os : Os) (started : os.Started) (H : Type) (enc : TypeId × Value → H) :
    ReturnsInHanded {} Try.checked os 16 .any (Rows.fnStackWriteSpec.pre6 enc Try.prog Try.f16 Rows.fnStackWriteRow.domain false) (Rows.fnStackWriteSpec.post enc Try.prog Try.f16 false true false false) := by
  refine returnsInHanded_of_change (C := Try.checked) own_knob started (by kernel_rfl) Try.func16
    (ChangeSpec.witness6 (enc := enc) (C := Try.checked) false ⟨#[], #[.slice none 0 0], []⟩ 8 (by kernel_rfl) (by kernel_rfl) (by kernel_rfl) (by kernel_rfl)) ?_
  intro W base args ds gs before hval0 hW hcnd _
  have hval : ∀ (j : Nat) t v, Try.f16.params[j]? = some t → args[j]? = some v → Value.okWide Try.prog W .any base t v := hval0
  have hW' := hW
  obtain ⟨p, q, hA0, hV, rfl, hfz, hnd⟩ := hW
  have hA : DataW.TrodAll enc Try.prog W 0 (fun _ => true) true Try.f16.params.toList args.toList ds p := hA0
  rw [Try.params16] at hA hval
  obtain ⟨v0, vs0, d0, ds0, p0, q0, hargs, rfl, rfl, h0, r0⟩ := trodAll_cons hA
  obtain ⟨rfl, rfl, rfl⟩ := trodAll_nil r0
  obtain rfl : args = #[v0] := by cases args; simp_all
  obtain ⟨rfl, rfl⟩ := trodVars_none hV
  have k0 := h0
  have lt0 : ∀ x ∈ p0, x.block < W.heap.size := by obtain ⟨m, hm⟩ := k0; exact DataW.trod_lt m _ _ _ hm
  obtain ⟨A0, c0, l0, rfl, hl0, hm0, rd0, by0⟩ := open_bytes Try.underlying46 Try.underlying5 (by kernel_rfl) (hval 0 46 v0 rfl rfl) h0
  clear hA0 hval0
  refine (walk A0 c0 l0 W hl0 hm0 rd0 by0).mono fun e W' ⟨he, bel⟩ => ?_
  subst he
  exact ⟨_, rfl, _, _, _, [], _, [], hW', trodAll_mk1 (shut_bool Try.underlying4 _), (trodAll_cons_mk (Below.trod laid_out (by kernel_rfl) (of_decide_eq_true (by kernel_rfl)) k0 bel lt0) trodAll_mk0), rfl, bel.frame _, fun h => by cases h⟩
theorem over : Rows.fnStackWriteRow.holds Try.pinned (OpenSpec.ofChange Rows.fnStackWriteSpec) :=
  OpenClaim.holds_of_wide 16 Try.f16 rfl rfl rfl rfl rfl rfl rfl ⟨rfl, rfl, rfl, rfl, rfl⟩ rfl rfl rfl rfl rfl (by kernel_rfl) Try.func16 (by kernel_rfl)
    (of_decide_eq_true (by kernel_rfl)) (by unfold Func.isWrapper; first | (rw [if_pos (by decide +kernel)]; kernel_rfl) | (rw [if_neg (by decide +kernel)]; exact ⟨rfl, rfl⟩))
    (fun os started H enc _ => lifted os started H enc)
theorem proved : Rows.FnStackWriteSaid := over
end LwKw
end Go.Proofs.Ytlhbjfjphckifaa
