/-
  MarkBad for all arguments: the program's and the reference's.
-/
import Derived.Test.YtekpahddcnbnfaaBase
import Derived.Test.YtekpahddcnbnfaaNum
import Derived.Test.YtekpahddcnbnfaaInts
import Derived.Test.YtekpahddcnbnfaaApp
import Derived.Test.YtekpahddcnbnfaaIntsW
import Derived.Test.YtekpahddcnbnfaaLib
import Derived.Test.YtekpahddcnbnfaaSpares
import Derived.Test.YtekpahddcnbnfaaHome
import Derived.Test.YtekpahddcnbnfaaMark
import Derived.Test.YtekpahddcnbnfaaMarkS
namespace Go.Proofs.Ytekpahddcnbnfaa
open Go.RowKit
set_option maxHeartbeats 2000000 in
theorem implMark_any (s : Sp) (A : Option Addr) (c : Nat) (a : Int) (w : World) (ha : Rd eInt w A s.bad) (hlc0 : s.bad.length ≤ c) (hl : s.bad.length ≤ 1099511627776) (hnil : A = none → c = 0) :
    Calls Try.prog 21 #[.agg #[.int .i64 s.sec, .int .i64 s.cnt, .slice A s.bad.length c], .int .i64 a] w (FreshSpB 3 (markB s a) (markOk s a) w) := by
  by_cases hs : sparesB s = true
  · cases hi : inB a 0 (s.sec - 1)
    · obtain ⟨⟨s0, s1⟩, _⟩ := spares_parts hs
      have HS := Lib.hid hs
      have e1 : markB s a = ⟨0, 0, []⟩ := by simp [markB, hi]
      have e2 : markOk s a = false := by simp [markOk, hi]
      have L1 := Loc.newAt (w.alloc (.cells #[.int .i64 s.sec, .int .i64 s.cnt, .slice A s.bad.length c] 27)) [.int .i64 0, .int .i64 0, .slice none 0 0] 27 (b := w.heap.size + 1) (by simp)
      have L0 := Loc.new w [.int .i64 s.sec, .int .i64 s.cnt, .slice A s.bad.length c] 27
      rw [e1, e2]
      clear hs e1 e2
      go_enter Try.func21, Try.ntmps21
      go_wp2_with fail
      refine (implSpares_any s A c _ (by repeat (first | with_reducible assumption | with_reducible refine Rd.drew ?_ | with_reducible refine Rd.drewN ?_ _ | with_reducible refine Rd.alloc ?_ _ | (with_reducible refine Rd.below ?_ (by assumption)))) hlc0 hl).mono ?_
      rw [HS.out]
      rintro e w1 ⟨rfl, hb1⟩
      have M1 := Loc.carryB L1 (fun h => by ((repeat (first | with_reducible exact h | with_reducible refine Loc.drew ?_ | with_reducible refine Loc.drewN ?_ _ | with_reducible refine Loc.alloc ?_ _)); done)) hb1
      have M0 := Loc.carryB L0 (fun h => by ((repeat (first | with_reducible exact h | with_reducible refine Loc.drew ?_ | with_reducible refine Loc.drewN ?_ _ | with_reducible refine Loc.alloc ?_ _)); done)) hb1
      obtain ⟨j0, j1, j2, jf⟩ := M1.three
      obtain ⟨k0, k1, k2, kf⟩ := M0.three
      go_wp2_with (go_at_call 29; refine (within_any _ _ _ _).mono ?_; rintro e w' ⟨rfl, rfl⟩)
      refine bodyPost_ret (v := .tuple #[.agg #[.int .i64 0, .int .i64 0, .slice none 0 0], .bool false]) (by simp [results, Try.results21, go_sem, *]) rfl ⟨none, 0, w.heap.size, rfl, Nat.le_refl _, Row.nil _ _ _, (by repeat (first | with_reducible exact Below.refl _ _ | with_reducible assumption | with_reducible refine below_drewN ?_ _ | with_reducible refine Below.drew ?_ | with_reducible refine Below.alloc ?_ ?_ _ | with_reducible refine Below.setCell ?_ ?_ _ | (with_reducible refine Below.next ?_ (by assumption)) | omega | (focus (simp; omega)) | (focus (simp; done))))⟩
    · exact implMark_mid s A c a w ha hlc0 hnil hs hi
  · have hs' : sparesB s = false := by simpa using hs
    have HS := Lib.hid hs'
    have e1 : markB s a = ⟨0, 0, []⟩ := by simp [markB, hs']
    have e2 : markOk s a = false := by simp [markOk, hs']
    have L1 := Loc.newAt (w.alloc (.cells #[.int .i64 s.sec, .int .i64 s.cnt, .slice A s.bad.length c] 27)) [.int .i64 0, .int .i64 0, .slice none 0 0] 27 (b := w.heap.size + 1) (by simp)
    rw [e1, e2]
    clear hs hs' e1 e2
    go_enter Try.func21, Try.ntmps21
    go_wp2_with fail
    refine (implSpares_any s A c _ (by repeat (first | with_reducible assumption | with_reducible refine Rd.drew ?_ | with_reducible refine Rd.drewN ?_ _ | with_reducible refine Rd.alloc ?_ _ | (with_reducible refine Rd.below ?_ (by assumption)))) hlc0 hl).mono ?_
    rw [HS.out]
    rintro e w1 ⟨rfl, hb1⟩
    have M1 := Loc.carryB L1 (fun h => by ((repeat (first | with_reducible exact h | with_reducible refine Loc.drew ?_ | with_reducible refine Loc.drewN ?_ _ | with_reducible refine Loc.alloc ?_ _)); done)) hb1
    obtain ⟨j0, j1, j2, jf⟩ := M1.three
    go_wp2
    refine bodyPost_ret (v := .tuple #[.agg #[.int .i64 0, .int .i64 0, .slice none 0 0], .bool false]) (by simp [results, Try.results21, go_sem, *]) rfl ⟨none, 0, w.heap.size, rfl, Nat.le_refl _, Row.nil _ _ _, (by repeat (first | with_reducible exact Below.refl _ _ | with_reducible assumption | with_reducible refine below_drewN ?_ _ | with_reducible refine Below.drew ?_ | with_reducible refine Below.alloc ?_ ?_ _ | with_reducible refine Below.setCell ?_ ?_ _ | (with_reducible refine Below.next ?_ (by assumption)) | omega | (focus (simp; omega)) | (focus (simp; done))))⟩
set_option maxHeartbeats 2000000 in
theorem specMark_any (s : Sp) (A : Option Addr) (c : Nat) (a : Int) (w : World) (ha : Rd eInt w A s.bad) (hl : s.bad.length ≤ 1099511627776) :
    Calls Try.prog 20 #[.agg #[.int .i64 s.sec, .int .i64 s.cnt, .slice A s.bad.length c], .int .i64 a] w (FreshSpB 3 (markB s a) (markOk s a) w) := by
  by_cases hs : sparesB s = true
  · cases hi : inB a 0 (s.sec - 1)
    · obtain ⟨⟨s0, s1⟩, _⟩ := spares_parts hs
      have HS := Lib.hid hs
      have e1 : markB s a = ⟨0, 0, []⟩ := by simp [markB, hi]
      have e2 : markOk s a = false := by simp [markOk, hi]
      have L1 := Loc.newAt (w.alloc (.cells #[.int .i64 s.sec, .int .i64 s.cnt, .slice A s.bad.length c] 27)) [.int .i64 0, .int .i64 0, .slice none 0 0] 27 (b := w.heap.size + 1) (by simp)
      have L0 := Loc.new w [.int .i64 s.sec, .int .i64 s.cnt, .slice A s.bad.length c] 27
      rw [e1, e2]
      clear hs e1 e2
      go_enter Try.func20, Try.ntmps20
      go_wp2_with fail
      refine (specSpares_any s A c _ (by repeat (first | with_reducible assumption | with_reducible refine Rd.drew ?_ | with_reducible refine Rd.drewN ?_ _ | with_reducible refine Rd.alloc ?_ _ | (with_reducible refine Rd.below ?_ (by assumption)))) hl).mono ?_
      rw [HS.out]
      rintro e w1 ⟨rfl, hb1⟩
      have M1 := Loc.carryB L1 (fun h => by ((repeat (first | with_reducible exact h | with_reducible refine Loc.drew ?_ | with_reducible refine Loc.drewN ?_ _ | with_reducible refine Loc.alloc ?_ _)); done)) hb1
      have M0 := Loc.carryB L0 (fun h => by ((repeat (first | with_reducible exact h | with_reducible refine Loc.drew ?_ | with_reducible refine Loc.drewN ?_ _ | with_reducible refine Loc.alloc ?_ _)); done)) hb1
      obtain ⟨j0, j1, j2, jf⟩ := M1.three
      obtain ⟨k0, k1, k2, kf⟩ := M0.three
      go_wp2_with (go_at_call 27; refine (l1In_any _ _ _ _).mono ?_; rintro e w' ⟨rfl, rfl⟩)
      refine bodyPost_ret (v := .tuple #[.agg #[.int .i64 0, .int .i64 0, .slice none 0 0], .bool false]) (by simp [results, Try.results20, go_sem, *]) rfl ⟨none, 0, w.heap.size, rfl, Nat.le_refl _, Row.nil _ _ _, (by repeat (first | with_reducible exact Below.refl _ _ | with_reducible assumption | with_reducible refine below_drewN ?_ _ | with_reducible refine Below.drew ?_ | with_reducible refine Below.alloc ?_ ?_ _ | with_reducible refine Below.setCell ?_ ?_ _ | (with_reducible refine Below.next ?_ (by assumption)) | omega | (focus (simp; omega)) | (focus (simp; done))))⟩
    · exact specMark_mid s A c a w ha hs hi
  · have hs' : sparesB s = false := by simpa using hs
    have HS := Lib.hid hs'
    have e1 : markB s a = ⟨0, 0, []⟩ := by simp [markB, hs']
    have e2 : markOk s a = false := by simp [markOk, hs']
    have L1 := Loc.newAt (w.alloc (.cells #[.int .i64 s.sec, .int .i64 s.cnt, .slice A s.bad.length c] 27)) [.int .i64 0, .int .i64 0, .slice none 0 0] 27 (b := w.heap.size + 1) (by simp)
    rw [e1, e2]
    clear hs hs' e1 e2
    go_enter Try.func20, Try.ntmps20
    go_wp2_with fail
    refine (specSpares_any s A c _ (by repeat (first | with_reducible assumption | with_reducible refine Rd.drew ?_ | with_reducible refine Rd.drewN ?_ _ | with_reducible refine Rd.alloc ?_ _ | (with_reducible refine Rd.below ?_ (by assumption)))) hl).mono ?_
    rw [HS.out]
    rintro e w1 ⟨rfl, hb1⟩
    have M1 := Loc.carryB L1 (fun h => by ((repeat (first | with_reducible exact h | with_reducible refine Loc.drew ?_ | with_reducible refine Loc.drewN ?_ _ | with_reducible refine Loc.alloc ?_ _)); done)) hb1
    obtain ⟨j0, j1, j2, jf⟩ := M1.three
    go_wp2
    refine bodyPost_ret (v := .tuple #[.agg #[.int .i64 0, .int .i64 0, .slice none 0 0], .bool false]) (by simp [results, Try.results20, go_sem, *]) rfl ⟨none, 0, w.heap.size, rfl, Nat.le_refl _, Row.nil _ _ _, (by repeat (first | with_reducible exact Below.refl _ _ | with_reducible assumption | with_reducible refine below_drewN ?_ _ | with_reducible refine Below.drew ?_ | with_reducible refine Below.alloc ?_ ?_ _ | with_reducible refine Below.setCell ?_ ?_ _ | (with_reducible refine Below.next ?_ (by assumption)) | omega | (focus (simp; omega)) | (focus (simp; done))))⟩
end Go.Proofs.Ytekpahddcnbnfaa
