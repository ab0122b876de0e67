/-
  The same shared volume twice. No condition.
-/
import Derived.Test.YtpekccmhfkeadaaBase
import Derived.Test.YtpekccmhfkeadaaNum
import Derived.Test.YtpekccmhfkeadaaInts
import Derived.Test.YtpekccmhfkeadaaApp
import Derived.Test.YtpekccmhfkeadaaIntsW
import Derived.Test.YtpekccmhfkeadaaLib
import Derived.Test.YtpekccmhfkeadaaSpares
import Derived.Test.YtpekccmhfkeadaaOwn
import Derived.Test.YtpekccmhfkeadaaCopy
import Derived.Test.YtpekccmhfkeadaaShared
import Derived.Test.YtpekccmhfkeadaaSharedM
import Derived.Test.YtpekccmhfkeadaaSharedC
import Derived.Test.YtpekccmhfkeadaaSharedV
import Derived.Laws.StructEq
import Derived.IntWalk
import Derived.StillTailTactics
namespace Go.Proofs.Ytpekccmhfkeadaa
open Go.RowKit
theorem dec_reflS {α : Type} [DecidableEq α] (a : α) : decide (a = a) = true := by simp
theorem cp_guard : Try.prog.eqGuardType Try.prog.depth 47 = false := by kernel_rfl
theorem cp_held : Try.prog.stoodInHeld 47 = false := by kernel_rfl
theorem cp_neq (p : Cp) (w : World) : (binOp .neq 47 (.agg #[.int .i64 p.val, .int .i64 p.usr]) (.agg #[.int .i64 p.val, .int .i64 p.usr])).run Try.prog w = .ok (.bool false) w := by
  have h1 := cp_held
  have h2 : (!((p.val == p.val) && (p.usr == p.usr))) = false := by simp
  rw [← h2]
  simp [go_sem, h1]
set_option maxHeartbeats 4000000 in
/-- the same shared volume twice -/
theorem sameShared_c (x0 x1 y0 y1 : Value) (f : Sh) (w : World) (h : SharedRd w [x0, x1] f) (h' : SharedRd w [y0, y1] f) (hs : sizeShared f ≤ 1099511627776) :
    Calls Try.prog 19 #[.agg #[x0, x1], .agg #[y0, y1]] w fun e w' => e = .returned (.bool true) ∧ Below w.heap.size w w' := by
  obtain ⟨A, c, A', c', rfl, rfl⟩ := sharedRd_lens h
  obtain ⟨B, d, B', d', rfl, rfl⟩ := sharedRd_lens h'
  have RA := Lib.hid (SharedRd.cps h)
  have RB := Lib.hid (SharedRd.cps h')
  have EA := Lib.hid (SharedRd.whr h)
  have EB := Lib.hid (SharedRd.whr h')
  unfold sizeShared at hs
  have L0 := Loc.new w [.slice A f.whr.length c, .slice A' f.cps.length c'] 30
  have L1 := Loc.newAt (w.alloc (.cells #[.slice A f.whr.length c, .slice A' f.cps.length c'] 30)) [.slice B f.whr.length d, .slice B' f.cps.length d'] 30 (b := w.heap.size + 1) (by simp)
  have hp63 : (f.cps.length : Int) ≤ 1099511627776 := by omega
  clear h h'
  go_enter Try.func19, Try.ntmps19
  go_wp2
  go_loopw [5] (fun i wr => ∃ k : Nat, k ≤ f.cps.length ∧ i = .int .i64 k ∧ Loc wr w.heap.size [.slice A f.whr.length c, .slice A' f.cps.length c'] ∧ Loc wr (w.heap.size + 1) [.slice B f.whr.length d, .slice B' f.cps.length d'] ∧ Below w.heap.size w wr) (fun i _ => f.cps.length - (intOf i).toNat)
  case atStart => exact ⟨0, Nat.zero_le _, rfl, Loc.alloc L0 _, L1, (by repeat (first | with_reducible exact Below.refl _ _ | with_reducible assumption | with_reducible refine below_drewN ?_ _ | with_reducible refine Below.drew ?_ | with_reducible refine Below.alloc ?_ ?_ _ | with_reducible refine Below.setCell ?_ ?_ _ | (with_reducible refine Below.next ?_ (by assumption)) | omega | (focus (simp; omega)) | (focus (simp; done))))⟩
  case round =>
    obtain ⟨k, hk, rfl, M0, M1, hbw⟩ := hrel
    obtain ⟨x0, x1, xf⟩ := M0.two
    obtain ⟨y0, y1, yf⟩ := M1.two
    have z0 := M0.lt
    have z1 := M1.lt
    have HBW := Lib.hid hbw
    by_cases hlt : k < f.cps.length
    · obtain ⟨b, off, rfl, hbl, hc0, hc1⟩ := (Rd.below RA.out hbw).rCopyS hlt
      obtain ⟨b2, off2, rfl, hbl2, hd0, hd1⟩ := (Rd.below RB.out hbw).rCopyS hlt
      have hne : ∀ w, (binOp .neq 47 (.agg #[.int .i64 (f.cps[k]'hlt).val, .int .i64 (f.cps[k]'hlt).usr]) (.agg #[.int .i64 (f.cps[k]'hlt).val, .int .i64 (f.cps[k]'hlt).usr])).run Try.prog w = .ok (.bool false) w := fun w => cp_neq _ w
      have hgd := cp_guard
      clear hbw
      go_wp2
      go_quiet (fail)
      clear hne
      go_wp2
      go_roundw
      case rel => exact ⟨k + 1, by omega, by go_num, Loc.drewN M0 _, Loc.drewN M1 _, below_drewN HBW.out _⟩
      case measure => simp [intOf]; omega
    · have EA2 := Lib.hid (Rd.below EA.out hbw)
      have EB2 := Lib.hid (Rd.below EB.out hbw)
      clear hbw
      go_wp2_with fail
      refine (sameInts_any A B c d f.whr f.whr _ EA2.out EB2.out (by omega) (by omega)).mono ?_
      rw [dec_reflS]
      rintro e w3 ⟨rfl, q, rfl⟩
      go_wp2
      go_ret
      exact ⟨rfl, below_drewN HBW.out _⟩
end Go.Proofs.Ytpekccmhfkeadaa
