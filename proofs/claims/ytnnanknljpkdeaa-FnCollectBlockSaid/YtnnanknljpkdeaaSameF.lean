/-
  The same flash memory twice. No condition.
-/
import Derived.Test.YtnnanknljpkdeaaBase
import Derived.Test.YtnnanknljpkdeaaNum
import Derived.Test.YtnnanknljpkdeaaInts
import Derived.Test.YtnnanknljpkdeaaApp
import Derived.Test.YtnnanknljpkdeaaIntsW
import Derived.Test.YtnnanknljpkdeaaLib
import Derived.Test.YtnnanknljpkdeaaSpares
import Derived.Test.YtnnanknljpkdeaaOwn
import Derived.Test.YtnnanknljpkdeaaPage
import Derived.Test.YtnnanknljpkdeaaFlash
import Derived.Test.YtnnanknljpkdeaaFlashM
import Derived.Test.YtnnanknljpkdeaaFlashC
import Derived.Test.YtnnanknljpkdeaaFlashD
import Derived.Laws.StructEq
import Derived.IntWalk
import Derived.StillTailTactics
namespace Go.Proofs.Ytnnanknljpkdeaa
open Go.RowKit
theorem dec_refl {α : Type} [DecidableEq α] (a : α) : decide (a = a) = true := by simp
theorem pg_guard : Try.prog.eqGuardType Try.prog.depth 42 = false := by kernel_rfl
theorem pg_held : Try.prog.stoodInHeld 42 = false := by kernel_rfl
theorem pg_neq (p : Pg) (w : World) : (binOp .neq 42 (.agg #[.int .i64 p.own, .int .i64 p.val]) (.agg #[.int .i64 p.own, .int .i64 p.val])).run Try.prog w = .ok (.bool false) w := by
  have h1 := pg_held
  have h2 : (!((p.own == p.own) && (p.val == p.val))) = false := by simp
  rw [← h2]
  simp [go_sem, h1]
set_option maxHeartbeats 4000000 in
/-- the same flash memory twice -/
theorem sameFlash_c (x0 x1 y0 y1 : Value) (f : Fl) (w : World) (h : FlashRd w [x0, x1] f) (h' : FlashRd w [y0, y1] f) (hs : sizeFlash f ≤ 1099511627776) :
    Calls Try.prog 35 #[.agg #[x0, x1], .agg #[y0, y1]] w fun e w' => e = .returned (.bool true) ∧ Below w.heap.size w w' := by
  obtain ⟨A, c, A', c', rfl, rfl⟩ := flashRd_lens h
  obtain ⟨B, d, B', d', rfl, rfl⟩ := flashRd_lens h'
  have RA := Lib.hid (FlashRd.pgs h)
  have RB := Lib.hid (FlashRd.pgs h')
  have EA := Lib.hid (FlashRd.ers h)
  have EB := Lib.hid (FlashRd.ers h')
  unfold sizeFlash at hs
  have L0 := Loc.new w [.slice A f.pages.length c, .slice A' f.erases.length c'] 30
  have L1 := Loc.newAt (w.alloc (.cells #[.slice A f.pages.length c, .slice A' f.erases.length c'] 30)) [.slice B f.pages.length d, .slice B' f.erases.length d'] 30 (b := w.heap.size + 1) (by simp)
  have hp63 : (f.pages.length : Int) ≤ 1099511627776 := by omega
  clear h h'
  go_enter Try.func35, Try.ntmps35
  go_wp2
  go_loopw [5] (fun i wr => ∃ k : Nat, k ≤ f.pages.length ∧ i = .int .i64 k ∧ Loc wr w.heap.size [.slice A f.pages.length c, .slice A' f.erases.length c'] ∧ Loc wr (w.heap.size + 1) [.slice B f.pages.length d, .slice B' f.erases.length d'] ∧ Below w.heap.size w wr) (fun i _ => f.pages.length - (intOf i).toNat)
  case atStart => exact ⟨0, Nat.zero_le _, rfl, Loc.alloc L0 _, L1, (by repeat (first | with_reducible exact Below.refl _ _ | with_reducible assumption | with_reducible refine below_drewN ?_ _ | with_reducible refine Below.drew ?_ | with_reducible refine Below.alloc ?_ ?_ _ | with_reducible refine Below.setCell ?_ ?_ _ | (with_reducible refine Below.next ?_ (by assumption)) | omega | (focus (simp; omega)) | (focus (simp; done))))⟩
  case round =>
    obtain ⟨k, hk, rfl, M0, M1, hbw⟩ := hrel
    obtain ⟨x0, x1, xf⟩ := M0.two
    obtain ⟨y0, y1, yf⟩ := M1.two
    have z0 := M0.lt
    have z1 := M1.lt
    have HBW := Lib.hid hbw
    by_cases hlt : k < f.pages.length
    · obtain ⟨b, off, rfl, hbl, hc0, hc1⟩ := (Rd.below RA.out hbw).rPageS hlt
      obtain ⟨b2, off2, rfl, hbl2, hd0, hd1⟩ := (Rd.below RB.out hbw).rPageS hlt
      have hne : ∀ w, (binOp .neq 42 (.agg #[.int .i64 (f.pages[k]'hlt).own, .int .i64 (f.pages[k]'hlt).val]) (.agg #[.int .i64 (f.pages[k]'hlt).own, .int .i64 (f.pages[k]'hlt).val])).run Try.prog w = .ok (.bool false) w := fun w => pg_neq _ w
      have hgd := pg_guard
      clear hbw
      go_wp2
      go_quiet (fail)
      clear hne
      go_wp2
      go_roundw
      case rel => exact ⟨k + 1, by omega, by go_num, Loc.drewN M0 _, Loc.drewN M1 _, below_drewN HBW.out _⟩
      case measure => simp [intOf]; omega
    · have EA2 := Lib.hid (Rd.below EA.out hbw)
      have EB2 := Lib.hid (Rd.below EB.out hbw)
      clear hbw
      go_wp2_with fail
      refine (sameInts_any A' B' c' d' f.erases f.erases _ EA2.out EB2.out (by omega) (by omega)).mono ?_
      rw [dec_refl]
      rintro e w3 ⟨rfl, q, rfl⟩
      go_wp2
      go_ret
      exact ⟨rfl, below_drewN HBW.out _⟩
end Go.Proofs.Ytnnanknljpkdeaa
