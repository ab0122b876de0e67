/-
  The same stack twice. No condition.
-/
import Derived.Test.YtlhbjfjphckifaaBase
import Derived.Test.YtlhbjfjphckifaaNum
import Derived.Test.YtlhbjfjphckifaaInts
import Derived.Test.YtlhbjfjphckifaaApp
import Derived.Test.YtlhbjfjphckifaaIntsW
import Derived.Test.YtlhbjfjphckifaaLib
import Derived.Test.YtlhbjfjphckifaaSpares
import Derived.Test.YtlhbjfjphckifaaOwn
import Derived.Test.YtlhbjfjphckifaaPart
import Derived.Test.YtlhbjfjphckifaaLine
import Derived.Test.YtlhbjfjphckifaaStack
import Derived.Test.YtlhbjfjphckifaaStackM
import Derived.Test.YtlhbjfjphckifaaStackC
import Derived.Test.YtlhbjfjphckifaaStackF
import Derived.Test.YtlhbjfjphckifaaStackS
import Derived.Laws.StructEq
import Derived.IntWalk
import Derived.StillTailTactics
namespace Go.Proofs.Ytlhbjfjphckifaa
open Go.RowKit
theorem dec_reflK {α : Type} [DecidableEq α] (a : α) : decide (a = a) = true := by simp
theorem pt_guard : Try.prog.eqGuardType Try.prog.depth 55 = false := by kernel_rfl
theorem pt_held : Try.prog.stoodInHeld 55 = false := by kernel_rfl
theorem pt_neq (p : Pt) (w : World) : (binOp .neq 55 (.agg #[.int .i64 p.fst, .int .i64 p.cnt]) (.agg #[.int .i64 p.fst, .int .i64 p.cnt])).run Try.prog w = .ok (.bool false) w := by
  have h1 := pt_held
  have h2 : (!((p.fst == p.fst) && (p.cnt == p.cnt))) = false := by simp
  rw [← h2]
  simp [go_sem, h1]
theorem ln_guard : Try.prog.eqGuardType Try.prog.depth 95 = false := by kernel_rfl
theorem ln_held : Try.prog.stoodInHeld 95 = false := by kernel_rfl
theorem ln_neq (p : Ln) (w : World) : (binOp .neq 95 (.agg #[.int .i64 p.at_, .int .i64 p.val, .bool p.drt]) (.agg #[.int .i64 p.at_, .int .i64 p.val, .bool p.drt])).run Try.prog w = .ok (.bool false) w := by
  have h1 := ln_held
  have h2 : (!((p.at_ == p.at_) && (p.val == p.val) && (p.drt == p.drt))) = false := by simp
  rw [← h2]
  simp [go_sem, h1]
set_option maxHeartbeats 4000000 in
theorem sameCache_c (A B : Option Addr) (c d : Nat) (l : List Ln) (m : Int) (w : World) (ha : Rd encLineS w A l) (hb : Rd encLineS w B l) (hl : l.length ≤ 1099511627776) :
    Calls Try.prog 83 #[.agg #[.slice A l.length c, .int .i64 m], .agg #[.slice B l.length d, .int .i64 m]] w fun e w' => e = .returned (.bool true) ∧ Below w.heap.size w w' := by
  have RA := Lib.hid ha
  have RB := Lib.hid hb
  have L0 := Loc.new w [.slice A l.length c, .int .i64 m] 33
  have L1 := Loc.newAt (w.alloc (.cells #[.slice A l.length c, .int .i64 m] 33)) [.slice B l.length d, .int .i64 m] 33 (b := w.heap.size + 1) (by simp)
  have hp63 : (l.length : Int) ≤ 1099511627776 := by omega
  clear ha hb
  go_enter Try.func83, Try.ntmps83
  go_wp2
  go_loopw [5] (fun i wr => ∃ k : Nat, k ≤ l.length ∧ i = .int .i64 k ∧ Loc wr w.heap.size [.slice A l.length c, .int .i64 m] ∧ Loc wr (w.heap.size + 1) [.slice B l.length d, .int .i64 m] ∧ Below w.heap.size w wr) (fun i _ => l.length - (intOf i).toNat)
  case atStart => exact ⟨0, Nat.zero_le _, rfl, Loc.alloc L0 _, L1, (by repeat (first | with_reducible exact Below.refl _ _ | with_reducible assumption | with_reducible refine below_drewN ?_ _ | with_reducible refine Below.drew ?_ | with_reducible refine Below.alloc ?_ ?_ _ | with_reducible refine Below.setCell ?_ ?_ _ | (with_reducible refine Below.next ?_ (by assumption)) | omega | (focus (simp; omega)) | (focus (simp; done))))⟩
  case round =>
    obtain ⟨k, hk, rfl, M0, M1, hbw⟩ := hrel
    obtain ⟨x0, x1, xf⟩ := M0.two
    obtain ⟨y0, y1, yf⟩ := M1.two
    have z0 := M0.lt
    have z1 := M1.lt
    have HBW := Lib.hid hbw
    by_cases hlt : k < l.length
    · obtain ⟨b, off, rfl, hbl, hc0, hc1, hc2⟩ := (Rd.below RA.out hbw).rLineS hlt
      obtain ⟨b2, off2, rfl, hbl2, hd0, hd1, hd2⟩ := (Rd.below RB.out hbw).rLineS hlt
      have hne : ∀ w, (binOp .neq 95 (.agg #[.int .i64 (l[k]'hlt).at_, .int .i64 (l[k]'hlt).val, .bool (l[k]'hlt).drt]) (.agg #[.int .i64 (l[k]'hlt).at_, .int .i64 (l[k]'hlt).val, .bool (l[k]'hlt).drt])).run Try.prog w = .ok (.bool false) w := fun w => ln_neq _ w
      have hgd := ln_guard
      clear hbw
      go_wp2
      go_quiet (fail)
      clear hne
      go_wp2
      go_roundw
      case rel => exact ⟨k + 1, by omega, by go_num, Loc.drewN M0 _, Loc.drewN M1 _, below_drewN HBW.out _⟩
      case measure => simp [intOf]; omega
    · clear hbw
      go_wp2
      go_ret
      exact ⟨rfl, HBW.out⟩
set_option maxHeartbeats 4000000 in
/-- the same stack twice -/
theorem sameStack_c (x0 x1 x2 x3 y0 y1 y2 y3 : Value) (t : Stk) (w : World) (h : StackRd w [x0, x1, x2, x3] t) (h' : StackRd w [y0, y1, y2, y3] t) (hs : sizeStack t ≤ 1099511627776) :
    Calls Try.prog 34 #[.agg #[x0, x1, x2, x3], .agg #[y0, y1, y2, y3]] w fun e w' => e = .returned (.bool true) ∧ Below w.heap.size w w' := by
  obtain ⟨A0, c0, A1, c1, A2, c2, e0, e1, e2, e3⟩ := id h.mst
  obtain ⟨B0, d0, B1, d1, B2, d2, f0, f1, f2, f3⟩ := id h'.mst
  subst e0 e1 e2 e3 f0 f1 f2 f3
  obtain ⟨⟨A, c, he, ra0, _⟩, ⟨A', c', he', ra1, _⟩, ⟨A'', c'', he'', ra2, _⟩⟩ := h.parts
  cases he; cases he'; cases he''
  obtain ⟨⟨A, c, he, rb0, _⟩, ⟨A', c', he', rb1, _⟩, ⟨A'', c'', he'', rb2, _⟩⟩ := h'.parts
  cases he; cases he'; cases he''
  unfold sizeStack at hs
  have RA0 := Lib.hid ra0
  have RA1 := Lib.hid ra1
  have RA2 := Lib.hid ra2
  have RB0 := Lib.hid rb0
  have RB1 := Lib.hid rb1
  have RB2 := Lib.hid rb2
  have L0 := Loc.new w [.slice A0 t.dsk.length c0, .slice A1 t.prt.length c1, .slice A2 t.lns.length c2, .int .i64 t.mst] 35
  have L1 := Loc.newAt (w.alloc (.cells #[.slice A0 t.dsk.length c0, .slice A1 t.prt.length c1, .slice A2 t.lns.length c2, .int .i64 t.mst] 35)) [.slice B0 t.dsk.length d0, .slice B1 t.prt.length d1, .slice B2 t.lns.length d2, .int .i64 t.mst] 35 (b := w.heap.size + 1) (by simp)
  have hp63 : (t.prt.length : Int) ≤ 1099511627776 := by omega
  clear h h' ra0 ra1 ra2 rb0 rb1 rb2
  go_enter Try.func34, Try.ntmps34
  go_wp2
  go_loopw [5] (fun i wr => ∃ k : Nat, k ≤ t.prt.length ∧ i = .int .i64 k ∧ Loc wr w.heap.size [.slice A0 t.dsk.length c0, .slice A1 t.prt.length c1, .slice A2 t.lns.length c2, .int .i64 t.mst] ∧ Loc wr (w.heap.size + 1) [.slice B0 t.dsk.length d0, .slice B1 t.prt.length d1, .slice B2 t.lns.length d2, .int .i64 t.mst] ∧ Below w.heap.size w wr) (fun i _ => t.prt.length - (intOf i).toNat)
  case atStart => exact ⟨0, Nat.zero_le _, rfl, Loc.alloc L0 _, L1, (by repeat (first | with_reducible exact Below.refl _ _ | with_reducible assumption | with_reducible refine below_drewN ?_ _ | with_reducible refine Below.drew ?_ | with_reducible refine Below.alloc ?_ ?_ _ | with_reducible refine Below.setCell ?_ ?_ _ | (with_reducible refine Below.next ?_ (by assumption)) | omega | (focus (simp; omega)) | (focus (simp; done))))⟩
  case round =>
    obtain ⟨k, hk, rfl, M0, M1, hbw⟩ := hrel
    obtain ⟨x0, x1, x2, x3, xf⟩ := M0.four
    obtain ⟨y0, y1, y2, y3, yf⟩ := M1.four
    have z0 := M0.lt
    have z1 := M1.lt
    have HBW := Lib.hid hbw
    by_cases hlt : k < t.prt.length
    · obtain ⟨b, off, rfl, hbl, hc0, hc1⟩ := (Rd.below RA1.out hbw).rPartS hlt
      obtain ⟨b2, off2, rfl, hbl2, hd0, hd1⟩ := (Rd.below RB1.out hbw).rPartS hlt
      have hne : ∀ w, (binOp .neq 55 (.agg #[.int .i64 (t.prt[k]'hlt).fst, .int .i64 (t.prt[k]'hlt).cnt]) (.agg #[.int .i64 (t.prt[k]'hlt).fst, .int .i64 (t.prt[k]'hlt).cnt])).run Try.prog w = .ok (.bool false) w := fun w => pt_neq _ w
      have hgd := pt_guard
      clear hbw
      go_wp2
      go_quiet (fail)
      clear hne
      go_wp2
      go_roundw
      case rel => exact ⟨k + 1, by omega, by go_num, Loc.drewN M0 _, Loc.drewN M1 _, below_drewN HBW.out _⟩
      case measure => simp [intOf]; omega
    · have EA := Lib.hid (Rd.below RA0.out hbw)
      have EB := Lib.hid (Rd.below RB0.out hbw)
      have FA := Lib.hid (Rd.below RA2.out hbw)
      have FB := Lib.hid (Rd.below RB2.out hbw)
      clear hbw
      go_wp2_with fail
      refine (sameInts_any A0 B0 c0 d0 t.dsk t.dsk _ EA.out EB.out (by omega) (by omega)).mono ?_
      rw [dec_reflK]
      rintro e w3 ⟨rfl, q, rfl⟩
      go_wp2_with fail
      refine (sameCache_c A2 B2 c2 d2 t.lns t.mst _ (Rd.drewN FA.out _) (Rd.drewN FB.out _) (by omega)).mono ?_
      rintro e w4 ⟨rfl, hb4⟩
      go_wp2
      go_ret
      exact ⟨rfl, Below.next (W := w) (below_drewN HBW.out _) hb4⟩
end Go.Proofs.Ytlhbjfjphckifaa
