/-
  What the draws for the laws of flash memories give. Conditions: the count of draws stays below 10^9.
-/
import Derived.Test.YtkejdgegkbfofaaBase
import Derived.Test.YtkejdgegkbfofaaNum
import Derived.Test.YtkejdgegkbfofaaInts
import Derived.Test.YtkejdgegkbfofaaApp
import Derived.Test.YtkejdgegkbfofaaIntsW
import Derived.Test.YtkejdgegkbfofaaLib
import Derived.Test.YtkejdgegkbfofaaSpares
import Derived.Test.YtkejdgegkbfofaaOwn
import Derived.Test.YtkejdgegkbfofaaThin
import Derived.Test.YtkejdgegkbfofaaThinM
import Derived.Test.YtkejdgegkbfofaaThinC
import Derived.Test.YtkejdgegkbfofaaThinW
import Derived.Test.YtkejdgegkbfofaaThinF
import Derived.Test.YtkejdgegkbfofaaThinX
import Derived.Test.YtkejdgegkbfofaaThinY
import Derived.Test.YtkejdgegkbfofaaThinP
import Derived.Test.YtkejdgegkbfofaaThinV
import Derived.Test.YtkejdgegkbfofaaThinTr
import Derived.Test.YtkejdgegkbfofaaDraw
import Derived.Test.YtkejdgegkbfofaaDrawK
import Derived.Test.YtkejdgegkbfofaaDrawD
import Derived.Test.YtkejdgegkbfofaaKept
import Derived.Test.YtkejdgegkbfofaaDrawTh
import Derived.IntWalk
namespace Go.Proofs.Ytkejdgegkbfofaa
open Go.RowKit
/-- A drawn thin volume; with numbers. -/
def ThinOf (w w' : World) (y0 y1 : Value) (t : Th) : Prop := ThinRd w' [y0, y1] t ∧ sizeThin t ≤ 60 ∧ Below w.heap.size w w'
def FreshThin (w : World) (e : Ending) (w' : World) : Prop := ∃ y0 y1 t, e = .returned (.agg #[y0, y1]) ∧ ThinOf w w' y0 y1 t
def FreshThinN (w : World) (e : Ending) (w' : World) : Prop := ∃ y0 y1 t, ∃ n : Int, e = .returned (.tuple #[.agg #[y0, y1], .int .i64 n]) ∧ (-1 ≤ n ∧ n ≤ 100) ∧ ThinOf w w' y0 y1 t
def FreshThinNV (w : World) (e : Ending) (w' : World) : Prop := ∃ y0 y1 t, ∃ n v : Int, e = .returned (.tuple #[.agg #[y0, y1], .int .i64 n, .int .i64 v]) ∧ (-1 ≤ n ∧ n ≤ 100) ∧ (-1 ≤ v ∧ v ≤ 300) ∧ ThinOf w w' y0 y1 t
set_option maxHeartbeats 2000000 in
theorem drawTv_any (A : Option Addr) (c : Nat) (l : List Int) (w : World) (hl : l.length ≤ c) (hm : c ≤ maxLen) (hr : Rd eByte w A l) (hb : ∀ x ∈ l, 0 ≤ x ∧ x ≤ 255) :
    Calls Try.prog 14 #[.slice A l.length c] w (FreshThin w) := by
  have HB := Lib.hid hb
  have L0 := Loc.new w [.slice none 0 0, .slice none 0 0] 26
  have hr1 := Lib.hid (Rd.alloc hr (.cells #[.slice none 0 0, .slice none 0 0] 26))
  clear hb
  have hA : Hid (∀ b off, 0 < l.length → A = some ⟨b, off, none⟩ → b < w.heap.size) := Lib.hid fun _ _ h0 hA => hr.lt h0 hA
  go_enter Try.func14, Try.ntmps14
  go_wp2_with fail
  refine (l20Open_any A c l _ hl hm hr1.out HB.out w.heap.size hA.out (by simp)).mono ?_
  rintro e w1 ⟨R, rfl, hR1, hge, hb1⟩
  replace L0 := Loc.carryB L0 (fun h => by ((repeat (first | with_reducible exact h | with_reducible refine Loc.drew ?_ | with_reducible refine Loc.drewN ?_ _ | with_reducible refine Loc.alloc ?_ _)); done)) hb1
  have HB1 : Hid (Below w.heap.size w w1) := Lib.hid (Below.next (W := w) (by repeat (first | with_reducible exact Below.refl _ _ | with_reducible refine below_drewN ?_ _ | with_reducible refine Below.drew ?_ | with_reducible refine Below.alloc ?_ ?_ _ | with_reducible refine Below.setCell ?_ ?_ _ | omega | (focus (simp; omega)) | (focus (simp; done)))) hb1)
  have hz1 := hb1.size
  simp at hge hz1
  clear hb1
  go_wp2_with fail
  refine (l20Thin_any w.heap.size R 0 9 _ hR1 (by omega) (by omega) (by omega) (by omega)).mono ?_
  rintro e w2 ⟨y0, y1, t, p2, rfl, hrd, hsz, hR2, hp20, hp21, hgw⟩
  replace L0 := Loc.carry L0 (fun h => by ((repeat (first | with_reducible exact h | with_reducible refine Loc.drew ?_ | with_reducible refine Loc.drewN ?_ _ | with_reducible refine Loc.alloc ?_ _)); done)) hgw (by omega)
  have HB2 : Hid (Below w.heap.size w w2) := Lib.hid (below_of_grown HB1.out hgw (by omega) (by omega))
  have hz2 := hgw.size
  obtain ⟨A0, c0, A1, c1, rfl, rfl⟩ := thinRd_lens (hrd w2 (Kept.refl _ _))
  have HRD := Lib.hid hrd
  have hRB : R < w1.heap.size := hR1.lt
  clear hgw hrd hR1
  have z0 := L0.lt
  obtain ⟨k0, k1, kf⟩ := L0.two
  go_wp2
  refine bodyPost_ret (v := .agg #[.slice A0 t.whr.length c0, .slice A1 t.pool.length c1]) (by simp [results, Try.results14, go_sem, *]; done) rfl ?_
  exact ⟨_, _, t, rfl, HRD.out _ (by repeat (first | with_reducible exact Kept.refl _ _ | with_reducible exact Kept.refl _ _ | with_reducible refine Kept.drew ?_ | with_reducible refine Kept.drewN ?_ _ | ((with_reducible refine Kept.alloc ?_ ?_ _); rotate_left; (focus (first | omega | (simp; omega) | (simp; done)))) | ((with_reducible refine Kept.set ?_ ?_ _); rotate_left; (focus (first | omega | (simp; omega) | (simp; done)))))), hsz, (by repeat (first | with_reducible exact HB2.out | with_reducible exact Below.refl _ _ | with_reducible refine below_drewN ?_ _ | with_reducible refine Below.drew ?_ | with_reducible refine Below.alloc ?_ ?_ _ | with_reducible refine Below.setCell ?_ ?_ _ | (with_reducible refine Below.next ?_ (by assumption)) | ((with_reducible refine Below.far' (by assumption) ?_ ?_ ?_); (focus (first | omega | (simp; omega) | (simp; done))); (focus (first | omega | (simp; omega) | (simp; done)))) | omega | (focus (simp; omega)) | (focus (simp; done))))⟩
set_option maxHeartbeats 4000000 in
theorem drawTt_any (A : Option Addr) (c : Nat) (l : List Int) (w : World) (hl : l.length ≤ c) (hm : c ≤ maxLen) (hr : Rd eByte w A l) (hb : ∀ x ∈ l, 0 ≤ x ∧ x ≤ 255) :
    Calls Try.prog 20 #[.slice A l.length c] w (FreshThinN w) := by
  have HB := Lib.hid hb
  have L0 := Loc.new w [.slice none 0 0, .slice none 0 0] 26
  have hr1 := Lib.hid (Rd.alloc hr (.cells #[.slice none 0 0, .slice none 0 0] 26))
  clear hb
  have hA : Hid (∀ b off, 0 < l.length → A = some ⟨b, off, none⟩ → b < w.heap.size) := Lib.hid fun _ _ h0 hA => hr.lt h0 hA
  go_enter Try.func20, Try.ntmps20
  go_wp2_with fail
  refine (l20Open_any A c l _ hl hm hr1.out HB.out w.heap.size hA.out (by simp)).mono ?_
  rintro e w1 ⟨R, rfl, hR1, hge, hb1⟩
  replace L0 := Loc.carryB L0 (fun h => by ((repeat (first | with_reducible exact h | with_reducible refine Loc.drew ?_ | with_reducible refine Loc.drewN ?_ _ | with_reducible refine Loc.alloc ?_ _)); done)) hb1
  have HB1 : Hid (Below w.heap.size w w1) := Lib.hid (Below.next (W := w) (by repeat (first | with_reducible exact Below.refl _ _ | with_reducible refine below_drewN ?_ _ | with_reducible refine Below.drew ?_ | with_reducible refine Below.alloc ?_ ?_ _ | with_reducible refine Below.setCell ?_ ?_ _ | omega | (focus (simp; omega)) | (focus (simp; done)))) hb1)
  have hz1 := hb1.size
  simp at hge hz1
  clear hb1
  go_wp2_with fail
  refine (l20Thin_any w.heap.size R 0 12 _ hR1 (by omega) (by omega) (by omega) (by omega)).mono ?_
  rintro e w2 ⟨y0, y1, t, p2, rfl, hrd, hsz, hR2, hp20, hp21, hgw⟩
  replace L0 := Loc.carry L0 (fun h => by ((repeat (first | with_reducible exact h | with_reducible refine Loc.drew ?_ | with_reducible refine Loc.drewN ?_ _ | with_reducible refine Loc.alloc ?_ _)); done)) hgw (by omega)
  have HB2 : Hid (Below w.heap.size w w2) := Lib.hid (below_of_grown HB1.out hgw (by omega) (by omega))
  have hz2 := hgw.size
  obtain ⟨A0, c0, A1, c1, rfl, rfl⟩ := thinRd_lens (hrd w2 (Kept.refl _ _))
  have HRD := Lib.hid hrd
  have hRB : R < w1.heap.size := hR1.lt
  clear hgw hrd hR1
  have hsw : t.whr.length ≤ 60 := by unfold sizeThin at hsz; omega
  have hwl := IntWalk.i64_in ((t.whr.length : Int) + 1) (by omega)
  have LS := Loc.newAt w2 [.slice A0 t.whr.length c0, .slice A1 t.pool.length c1] 26 (b := w2.heap.size) rfl
  have hlt2 := hR2.lt
  obtain ⟨s0, s1, sf⟩ := LS.two
  go_wp2
  go_region_law (first
    | (go_simp; go_at_call 45; (with_reducible refine (pick_any w.heap.size R (p2) (t.whr.length + 1) _ (by ((repeat (first | with_reducible assumption | with_reducible refine Rdr.drew ?_ | with_reducible refine Rdr.drewN ?_ _ | with_reducible refine Rdr.alloc ?_ _ | with_reducible refine Rdr.other ?_ _ _ ?_ ?_ | omega)); done)) (by omega) (by omega) (by omega)).mono ?_); go_must (rintro e w3 ⟨r3, rfl, a3, b3, hR3, hg3⟩; have b3' := b3 (by omega); clear b3; replace hR3 := hR3.to (p' := p2 + 1) (by omega); have L0_3 := Loc.carry L0 (fun h => (by repeat (first | with_reducible exact h | with_reducible refine Loc.drew ?_ | with_reducible refine Loc.drewN ?_ _ | with_reducible refine Loc.alloc ?_ _ | (with_reducible refine Loc.below ?_ (by assumption)) | ((with_reducible refine Loc.other' ?_ ?_ _); (focus (first | omega | (simp; omega) | (simp; done)))) | ((with_reducible refine Loc.far' (by assumption) ?_ ?_); (focus (first | omega | (simp; omega) | (simp; done))))))) hg3 (by omega); have LS_3 := Loc.carry LS (fun h => (by repeat (first | with_reducible exact h | with_reducible refine Loc.drew ?_ | with_reducible refine Loc.drewN ?_ _ | with_reducible refine Loc.alloc ?_ _ | (with_reducible refine Loc.below ?_ (by assumption)) | ((with_reducible refine Loc.other' ?_ ?_ _); (focus (first | omega | (simp; omega) | (simp; done)))) | ((with_reducible refine Loc.far' (by assumption) ?_ ?_); (focus (first | omega | (simp; omega) | (simp; done))))))) hg3 (by omega); obtain ⟨m0_3, m1_3, mf_3⟩ := L0_3.two; obtain ⟨q0_3, q1_3, qf_3⟩ := LS_3.two; have z0_3 := L0_3.lt; have zS_3 := LS_3.lt; have hz3 := hg3.size; (try simp at hz3); have HK3 : Hid (Kept w1.heap.size w2 w3) := Lib.hid (Kept.trans (by repeat (first | with_reducible exact Kept.refl _ _ | with_reducible exact Kept.refl _ _ | with_reducible refine Kept.drew ?_ | with_reducible refine Kept.drewN ?_ _ | ((with_reducible refine Kept.alloc ?_ ?_ _); rotate_left; (focus (first | omega | (simp; omega) | (simp; done)))) | ((with_reducible refine Kept.set ?_ ?_ _); rotate_left; (focus (first | omega | (simp; omega) | (simp; done)))))) (Kept.of_grown hg3 hRB) (by first | omega | (simp; done) | (simp; omega))); have HB3 : Hid (Below w.heap.size w w3) := Lib.hid (below_of_grown (by repeat (first | with_reducible exact HB2.out | with_reducible exact Below.refl _ _ | with_reducible refine below_drewN ?_ _ | with_reducible refine Below.drew ?_ | with_reducible refine Below.alloc ?_ ?_ _ | with_reducible refine Below.setCell ?_ ?_ _ | (with_reducible refine Below.next ?_ (by assumption)) | ((with_reducible refine Below.far' (by assumption) ?_ ?_ ?_); (focus (first | omega | (simp; omega) | (simp; done))); (focus (first | omega | (simp; omega) | (simp; done)))) | omega | (focus (simp; omega)) | (focus (simp; done)))) hg3 (by first | omega | (simp; omega)) (by omega)); have hlt3 := hR3.lt; clear hg3))
    | (go_simp; go_at_call 45; (with_reducible refine (pick_any w.heap.size R (p2 + 1) (12) _ (by ((repeat (first | with_reducible assumption | with_reducible refine Rdr.drew ?_ | with_reducible refine Rdr.drewN ?_ _ | with_reducible refine Rdr.alloc ?_ _ | with_reducible refine Rdr.other ?_ _ _ ?_ ?_ | omega)); done)) (by omega) (by omega) (by omega)).mono ?_); go_must (rintro e w4 ⟨r4, rfl, a4, b4, hR4, hg4⟩; have b4' := b4 (by omega); clear b4; replace hR4 := hR4.to (p' := p2 + 1 + 1) (by omega); have L0_4 := Loc.carry L0_3 (fun h => (by repeat (first | with_reducible exact h | with_reducible refine Loc.drew ?_ | with_reducible refine Loc.drewN ?_ _ | with_reducible refine Loc.alloc ?_ _ | (with_reducible refine Loc.below ?_ (by assumption)) | ((with_reducible refine Loc.other' ?_ ?_ _); (focus (first | omega | (simp; omega) | (simp; done)))) | ((with_reducible refine Loc.far' (by assumption) ?_ ?_); (focus (first | omega | (simp; omega) | (simp; done))))))) hg4 (by omega); have LS_4 := Loc.carry LS_3 (fun h => (by repeat (first | with_reducible exact h | with_reducible refine Loc.drew ?_ | with_reducible refine Loc.drewN ?_ _ | with_reducible refine Loc.alloc ?_ _ | (with_reducible refine Loc.below ?_ (by assumption)) | ((with_reducible refine Loc.other' ?_ ?_ _); (focus (first | omega | (simp; omega) | (simp; done)))) | ((with_reducible refine Loc.far' (by assumption) ?_ ?_); (focus (first | omega | (simp; omega) | (simp; done))))))) hg4 (by omega); obtain ⟨m0_4, m1_4, mf_4⟩ := L0_4.two; obtain ⟨q0_4, q1_4, qf_4⟩ := LS_4.two; have z0_4 := L0_4.lt; have zS_4 := LS_4.lt; have hz4 := hg4.size; (try simp at hz4); have HK4 : Hid (Kept w1.heap.size w2 w4) := Lib.hid (Kept.trans (by repeat (first | with_reducible exact HK3.out | with_reducible exact Kept.refl _ _ | with_reducible refine Kept.drew ?_ | with_reducible refine Kept.drewN ?_ _ | ((with_reducible refine Kept.alloc ?_ ?_ _); rotate_left; (focus (first | omega | (simp; omega) | (simp; done)))) | ((with_reducible refine Kept.set ?_ ?_ _); rotate_left; (focus (first | omega | (simp; omega) | (simp; done)))))) (Kept.of_grown hg4 hRB) (by first | omega | (simp; done) | (simp; omega))); have HB4 : Hid (Below w.heap.size w w4) := Lib.hid (below_of_grown (by repeat (first | with_reducible exact HB3.out | with_reducible exact Below.refl _ _ | with_reducible refine below_drewN ?_ _ | with_reducible refine Below.drew ?_ | with_reducible refine Below.alloc ?_ ?_ _ | with_reducible refine Below.setCell ?_ ?_ _ | (with_reducible refine Below.next ?_ (by assumption)) | ((with_reducible refine Below.far' (by assumption) ?_ ?_ ?_); (focus (first | omega | (simp; omega) | (simp; done))); (focus (first | omega | (simp; omega) | (simp; done)))) | omega | (focus (simp; omega)) | (focus (simp; done)))) hg4 (by first | omega | (simp; omega)) (by omega)); have hlt4 := hR4.lt; clear hg4); obtain ⟨d4, e4, d40, d41⟩ : ∃ d4, r4 / 11 = d4 ∧ 0 ≤ d4 ∧ d4 ≤ 1 := (⟨_, rfl, by omega, by omega⟩); have t4 : r4.tdiv 11 = d4 := (by rw [Int.tdiv_eq_ediv_of_nonneg a4, e4]); have hw4 : IntKind.i64.wrap d4 = d4 := (IntWalk.i64_in _ (by omega)); obtain ⟨nn, hnn⟩ : ∃ nn, nn = r3 - d4 := ⟨_, rfl⟩; have hw41 : IntKind.i64.wrap (r3 - d4) = nn := (by rw [hnn]; exact IntWalk.i64_in _ (by omega)); have hnn0 : -1 ≤ nn := (by omega); have hnn1 : nn ≤ 60 := (by omega); clear hnn))
  all_goals
    go_wp2
    refine bodyPost_ret (v := .tuple #[.agg #[.slice A0 t.whr.length c0, .slice A1 t.pool.length c1], .int .i64 nn]) (by simp [results, Try.results20, go_sem, *]; done) rfl ?_
    exact ⟨_, _, t, nn, rfl, ⟨by omega, by omega⟩, HRD.out _ (by repeat (first | with_reducible exact HK4.out | with_reducible exact Kept.refl _ _ | with_reducible refine Kept.drew ?_ | with_reducible refine Kept.drewN ?_ _ | ((with_reducible refine Kept.alloc ?_ ?_ _); rotate_left; (focus (first | omega | (simp; omega) | (simp; done)))) | ((with_reducible refine Kept.set ?_ ?_ _); rotate_left; (focus (first | omega | (simp; omega) | (simp; done)))))), hsz, (by repeat (first | with_reducible exact HB4.out | with_reducible exact Below.refl _ _ | with_reducible refine below_drewN ?_ _ | with_reducible refine Below.drew ?_ | with_reducible refine Below.alloc ?_ ?_ _ | with_reducible refine Below.setCell ?_ ?_ _ | (with_reducible refine Below.next ?_ (by assumption)) | ((with_reducible refine Below.far' (by assumption) ?_ ?_ ?_); (focus (first | omega | (simp; omega) | (simp; done))); (focus (first | omega | (simp; omega) | (simp; done)))) | omega | (focus (simp; omega)) | (focus (simp; done))))⟩
set_option maxHeartbeats 4000000 in
theorem drawTw_any (A : Option Addr) (c : Nat) (l : List Int) (w : World) (hl : l.length ≤ c) (hm : c ≤ maxLen) (hr : Rd eByte w A l) (hb : ∀ x ∈ l, 0 ≤ x ∧ x ≤ 255) :
    Calls Try.prog 26 #[.slice A l.length c] w (FreshThinNV w) := by
  have HB := Lib.hid hb
  have L0 := Loc.new w [.slice none 0 0, .slice none 0 0] 26
  have hr1 := Lib.hid (Rd.alloc hr (.cells #[.slice none 0 0, .slice none 0 0] 26))
  clear hb
  have hA : Hid (∀ b off, 0 < l.length → A = some ⟨b, off, none⟩ → b < w.heap.size) := Lib.hid fun _ _ h0 hA => hr.lt h0 hA
  go_enter Try.func26, Try.ntmps26
  go_wp2_with fail
  refine (l20Open_any A c l _ hl hm hr1.out HB.out w.heap.size hA.out (by simp)).mono ?_
  rintro e w1 ⟨R, rfl, hR1, hge, hb1⟩
  replace L0 := Loc.carryB L0 (fun h => by ((repeat (first | with_reducible exact h | with_reducible refine Loc.drew ?_ | with_reducible refine Loc.drewN ?_ _ | with_reducible refine Loc.alloc ?_ _)); done)) hb1
  have HB1 : Hid (Below w.heap.size w w1) := Lib.hid (Below.next (W := w) (by repeat (first | with_reducible exact Below.refl _ _ | with_reducible refine below_drewN ?_ _ | with_reducible refine Below.drew ?_ | with_reducible refine Below.alloc ?_ ?_ _ | with_reducible refine Below.setCell ?_ ?_ _ | omega | (focus (simp; omega)) | (focus (simp; done)))) hb1)
  have hz1 := hb1.size
  simp at hge hz1
  clear hb1
  go_wp2_with fail
  refine (l20Thin_any w.heap.size R 0 12 _ hR1 (by omega) (by omega) (by omega) (by omega)).mono ?_
  rintro e w2 ⟨y0, y1, t, p2, rfl, hrd, hsz, hR2, hp20, hp21, hgw⟩
  replace L0 := Loc.carry L0 (fun h => by ((repeat (first | with_reducible exact h | with_reducible refine Loc.drew ?_ | with_reducible refine Loc.drewN ?_ _ | with_reducible refine Loc.alloc ?_ _)); done)) hgw (by omega)
  have HB2 : Hid (Below w.heap.size w w2) := Lib.hid (below_of_grown HB1.out hgw (by omega) (by omega))
  have hz2 := hgw.size
  obtain ⟨A0, c0, A1, c1, rfl, rfl⟩ := thinRd_lens (hrd w2 (Kept.refl _ _))
  have HRD := Lib.hid hrd
  have hRB : R < w1.heap.size := hR1.lt
  clear hgw hrd hR1
  have hsw : t.whr.length ≤ 60 := by unfold sizeThin at hsz; omega
  have hwl := IntWalk.i64_in ((t.whr.length : Int) + 1) (by omega)
  have LS := Loc.newAt w2 [.slice A0 t.whr.length c0, .slice A1 t.pool.length c1] 26 (b := w2.heap.size) rfl
  have hlt2 := hR2.lt
  obtain ⟨s0, s1, sf⟩ := LS.two
  go_wp2
  go_region_law (first
    | (go_simp; go_at_call 45; (with_reducible refine (pick_any w.heap.size R (p2) (t.whr.length + 1) _ (by ((repeat (first | with_reducible assumption | with_reducible refine Rdr.drew ?_ | with_reducible refine Rdr.drewN ?_ _ | with_reducible refine Rdr.alloc ?_ _ | with_reducible refine Rdr.other ?_ _ _ ?_ ?_ | omega)); done)) (by omega) (by omega) (by omega)).mono ?_); go_must (rintro e w3 ⟨r3, rfl, a3, b3, hR3, hg3⟩; have b3' := b3 (by omega); clear b3; replace hR3 := hR3.to (p' := p2 + 1) (by omega); have L0_3 := Loc.carry L0 (fun h => (by repeat (first | with_reducible exact h | with_reducible refine Loc.drew ?_ | with_reducible refine Loc.drewN ?_ _ | with_reducible refine Loc.alloc ?_ _ | (with_reducible refine Loc.below ?_ (by assumption)) | ((with_reducible refine Loc.other' ?_ ?_ _); (focus (first | omega | (simp; omega) | (simp; done)))) | ((with_reducible refine Loc.far' (by assumption) ?_ ?_); (focus (first | omega | (simp; omega) | (simp; done))))))) hg3 (by omega); have LS_3 := Loc.carry LS (fun h => (by repeat (first | with_reducible exact h | with_reducible refine Loc.drew ?_ | with_reducible refine Loc.drewN ?_ _ | with_reducible refine Loc.alloc ?_ _ | (with_reducible refine Loc.below ?_ (by assumption)) | ((with_reducible refine Loc.other' ?_ ?_ _); (focus (first | omega | (simp; omega) | (simp; done)))) | ((with_reducible refine Loc.far' (by assumption) ?_ ?_); (focus (first | omega | (simp; omega) | (simp; done))))))) hg3 (by omega); obtain ⟨m0_3, m1_3, mf_3⟩ := L0_3.two; obtain ⟨q0_3, q1_3, qf_3⟩ := LS_3.two; have z0_3 := L0_3.lt; have zS_3 := LS_3.lt; have hz3 := hg3.size; (try simp at hz3); have HK3 : Hid (Kept w1.heap.size w2 w3) := Lib.hid (Kept.trans (by repeat (first | with_reducible exact Kept.refl _ _ | with_reducible exact Kept.refl _ _ | with_reducible refine Kept.drew ?_ | with_reducible refine Kept.drewN ?_ _ | ((with_reducible refine Kept.alloc ?_ ?_ _); rotate_left; (focus (first | omega | (simp; omega) | (simp; done)))) | ((with_reducible refine Kept.set ?_ ?_ _); rotate_left; (focus (first | omega | (simp; omega) | (simp; done)))))) (Kept.of_grown hg3 hRB) (by first | omega | (simp; done) | (simp; omega))); have HB3 : Hid (Below w.heap.size w w3) := Lib.hid (below_of_grown (by repeat (first | with_reducible exact HB2.out | with_reducible exact Below.refl _ _ | with_reducible refine below_drewN ?_ _ | with_reducible refine Below.drew ?_ | with_reducible refine Below.alloc ?_ ?_ _ | with_reducible refine Below.setCell ?_ ?_ _ | (with_reducible refine Below.next ?_ (by assumption)) | ((with_reducible refine Below.far' (by assumption) ?_ ?_ ?_); (focus (first | omega | (simp; omega) | (simp; done))); (focus (first | omega | (simp; omega) | (simp; done)))) | omega | (focus (simp; omega)) | (focus (simp; done)))) hg3 (by first | omega | (simp; omega)) (by omega)); have hlt3 := hR3.lt; clear hg3))
    | (go_simp; go_at_call 45; (with_reducible refine (pick_any w.heap.size R (p2 + 1) (12) _ (by ((repeat (first | with_reducible assumption | with_reducible refine Rdr.drew ?_ | with_reducible refine Rdr.drewN ?_ _ | with_reducible refine Rdr.alloc ?_ _ | with_reducible refine Rdr.other ?_ _ _ ?_ ?_ | omega)); done)) (by omega) (by omega) (by omega)).mono ?_); go_must (rintro e w4 ⟨r4, rfl, a4, b4, hR4, hg4⟩; have b4' := b4 (by omega); clear b4; replace hR4 := hR4.to (p' := p2 + 1 + 1) (by omega); have L0_4 := Loc.carry L0_3 (fun h => (by repeat (first | with_reducible exact h | with_reducible refine Loc.drew ?_ | with_reducible refine Loc.drewN ?_ _ | with_reducible refine Loc.alloc ?_ _ | (with_reducible refine Loc.below ?_ (by assumption)) | ((with_reducible refine Loc.other' ?_ ?_ _); (focus (first | omega | (simp; omega) | (simp; done)))) | ((with_reducible refine Loc.far' (by assumption) ?_ ?_); (focus (first | omega | (simp; omega) | (simp; done))))))) hg4 (by omega); have LS_4 := Loc.carry LS_3 (fun h => (by repeat (first | with_reducible exact h | with_reducible refine Loc.drew ?_ | with_reducible refine Loc.drewN ?_ _ | with_reducible refine Loc.alloc ?_ _ | (with_reducible refine Loc.below ?_ (by assumption)) | ((with_reducible refine Loc.other' ?_ ?_ _); (focus (first | omega | (simp; omega) | (simp; done)))) | ((with_reducible refine Loc.far' (by assumption) ?_ ?_); (focus (first | omega | (simp; omega) | (simp; done))))))) hg4 (by omega); obtain ⟨m0_4, m1_4, mf_4⟩ := L0_4.two; obtain ⟨q0_4, q1_4, qf_4⟩ := LS_4.two; have z0_4 := L0_4.lt; have zS_4 := LS_4.lt; have hz4 := hg4.size; (try simp at hz4); have HK4 : Hid (Kept w1.heap.size w2 w4) := Lib.hid (Kept.trans (by repeat (first | with_reducible exact HK3.out | with_reducible exact Kept.refl _ _ | with_reducible refine Kept.drew ?_ | with_reducible refine Kept.drewN ?_ _ | ((with_reducible refine Kept.alloc ?_ ?_ _); rotate_left; (focus (first | omega | (simp; omega) | (simp; done)))) | ((with_reducible refine Kept.set ?_ ?_ _); rotate_left; (focus (first | omega | (simp; omega) | (simp; done)))))) (Kept.of_grown hg4 hRB) (by first | omega | (simp; done) | (simp; omega))); have HB4 : Hid (Below w.heap.size w w4) := Lib.hid (below_of_grown (by repeat (first | with_reducible exact HB3.out | with_reducible exact Below.refl _ _ | with_reducible refine below_drewN ?_ _ | with_reducible refine Below.drew ?_ | with_reducible refine Below.alloc ?_ ?_ _ | with_reducible refine Below.setCell ?_ ?_ _ | (with_reducible refine Below.next ?_ (by assumption)) | ((with_reducible refine Below.far' (by assumption) ?_ ?_ ?_); (focus (first | omega | (simp; omega) | (simp; done))); (focus (first | omega | (simp; omega) | (simp; done)))) | omega | (focus (simp; omega)) | (focus (simp; done)))) hg4 (by first | omega | (simp; omega)) (by omega)); have hlt4 := hR4.lt; clear hg4); obtain ⟨d4, e4, d40, d41⟩ : ∃ d4, r4 / 11 = d4 ∧ 0 ≤ d4 ∧ d4 ≤ 1 := (⟨_, rfl, by omega, by omega⟩); have t4 : r4.tdiv 11 = d4 := (by rw [Int.tdiv_eq_ediv_of_nonneg a4, e4]); have hw4 : IntKind.i64.wrap d4 = d4 := (IntWalk.i64_in _ (by omega)); obtain ⟨nn, hnn⟩ : ∃ nn, nn = r3 - d4 := ⟨_, rfl⟩; have hw41 : IntKind.i64.wrap (r3 - d4) = nn := (by rw [hnn]; exact IntWalk.i64_in _ (by omega)); have hnn0 : -1 ≤ nn := (by omega); have hnn1 : nn ≤ 60 := (by omega); clear hnn)
    | (go_simp; go_at_call 45; (with_reducible refine (pick_any w.heap.size R (p2 + 1 + 1) (258) _ (by ((repeat (first | with_reducible assumption | with_reducible refine Rdr.drew ?_ | with_reducible refine Rdr.drewN ?_ _ | with_reducible refine Rdr.alloc ?_ _ | with_reducible refine Rdr.other ?_ _ _ ?_ ?_ | omega)); done)) (by omega) (by omega) (by omega)).mono ?_); go_must (rintro e w5 ⟨r5, rfl, a5, b5, hR5, hg5⟩; have b5' := b5 (by omega); clear b5; replace hR5 := hR5.to (p' := p2 + 1 + 1 + 1) (by omega); have L0_5 := Loc.carry L0_4 (fun h => (by repeat (first | with_reducible exact h | with_reducible refine Loc.drew ?_ | with_reducible refine Loc.drewN ?_ _ | with_reducible refine Loc.alloc ?_ _ | (with_reducible refine Loc.below ?_ (by assumption)) | ((with_reducible refine Loc.other' ?_ ?_ _); (focus (first | omega | (simp; omega) | (simp; done)))) | ((with_reducible refine Loc.far' (by assumption) ?_ ?_); (focus (first | omega | (simp; omega) | (simp; done))))))) hg5 (by omega); have LS_5 := Loc.carry LS_4 (fun h => (by repeat (first | with_reducible exact h | with_reducible refine Loc.drew ?_ | with_reducible refine Loc.drewN ?_ _ | with_reducible refine Loc.alloc ?_ _ | (with_reducible refine Loc.below ?_ (by assumption)) | ((with_reducible refine Loc.other' ?_ ?_ _); (focus (first | omega | (simp; omega) | (simp; done)))) | ((with_reducible refine Loc.far' (by assumption) ?_ ?_); (focus (first | omega | (simp; omega) | (simp; done))))))) hg5 (by omega); obtain ⟨m0_5, m1_5, mf_5⟩ := L0_5.two; obtain ⟨q0_5, q1_5, qf_5⟩ := LS_5.two; have z0_5 := L0_5.lt; have zS_5 := LS_5.lt; have hz5 := hg5.size; (try simp at hz5); have HK5 : Hid (Kept w1.heap.size w2 w5) := Lib.hid (Kept.trans (by repeat (first | with_reducible exact HK4.out | with_reducible exact Kept.refl _ _ | with_reducible refine Kept.drew ?_ | with_reducible refine Kept.drewN ?_ _ | ((with_reducible refine Kept.alloc ?_ ?_ _); rotate_left; (focus (first | omega | (simp; omega) | (simp; done)))) | ((with_reducible refine Kept.set ?_ ?_ _); rotate_left; (focus (first | omega | (simp; omega) | (simp; done)))))) (Kept.of_grown hg5 hRB) (by first | omega | (simp; done) | (simp; omega))); have HB5 : Hid (Below w.heap.size w w5) := Lib.hid (below_of_grown (by repeat (first | with_reducible exact HB4.out | with_reducible exact Below.refl _ _ | with_reducible refine below_drewN ?_ _ | with_reducible refine Below.drew ?_ | with_reducible refine Below.alloc ?_ ?_ _ | with_reducible refine Below.setCell ?_ ?_ _ | (with_reducible refine Below.next ?_ (by assumption)) | ((with_reducible refine Below.far' (by assumption) ?_ ?_ ?_); (focus (first | omega | (simp; omega) | (simp; done))); (focus (first | omega | (simp; omega) | (simp; done)))) | omega | (focus (simp; omega)) | (focus (simp; done)))) hg5 (by first | omega | (simp; omega)) (by omega)); have hlt5 := hR5.lt; clear hg5); have hw5 := IntWalk.i64_in (r5 - 1) (by omega)))
  all_goals
    go_wp2
    refine bodyPost_ret (v := .tuple #[.agg #[.slice A0 t.whr.length c0, .slice A1 t.pool.length c1], .int .i64 nn, .int .i64 (r5 - 1)]) (by simp [results, Try.results26, go_sem, *]; done) rfl ?_
    exact ⟨_, _, t, nn, r5 - 1, rfl, ⟨by omega, by omega⟩, ⟨by omega, by omega⟩, HRD.out _ (by repeat (first | with_reducible exact HK5.out | with_reducible exact Kept.refl _ _ | with_reducible refine Kept.drew ?_ | with_reducible refine Kept.drewN ?_ _ | ((with_reducible refine Kept.alloc ?_ ?_ _); rotate_left; (focus (first | omega | (simp; omega) | (simp; done)))) | ((with_reducible refine Kept.set ?_ ?_ _); rotate_left; (focus (first | omega | (simp; omega) | (simp; done)))))), hsz, (by repeat (first | with_reducible exact HB5.out | with_reducible exact Below.refl _ _ | with_reducible refine below_drewN ?_ _ | with_reducible refine Below.drew ?_ | with_reducible refine Below.alloc ?_ ?_ _ | with_reducible refine Below.setCell ?_ ?_ _ | (with_reducible refine Below.next ?_ (by assumption)) | ((with_reducible refine Below.far' (by assumption) ?_ ?_ ?_); (focus (first | omega | (simp; omega) | (simp; done))); (focus (first | omega | (simp; omega) | (simp; done)))) | omega | (focus (simp; omega)) | (focus (simp; done))))⟩
end Go.Proofs.Ytkejdgegkbfofaa
