/-
  Stacks: the laws' helpers. Conditions: lengths at most 2^40.
-/
import Derived.Test.YtlhbjfjphckifaaBase
import Derived.Test.YtlhbjfjphckifaaNum
import Derived.Test.YtlhbjfjphckifaaInts
import Derived.Test.YtlhbjfjphckifaaApp
import Derived.Test.YtlhbjfjphckifaaIntsW
import Derived.Test.YtlhbjfjphckifaaLib
import Derived.Test.YtlhbjfjphckifaaSpares
import Derived.Test.YtlhbjfjphckifaaOwn
import Derived.Test.YtlhbjfjphckifaaPart
import Derived.Test.YtlhbjfjphckifaaLine
import Derived.Laws.StructEq
namespace Go.Proofs.Ytlhbjfjphckifaa
open Go.RowKit
structure Stk where
  dsk : List Int
  prt : List Pt
  lns : List Ln
  mst : Int
deriving DecidableEq
def StackRd (w : World) (xs : List Value) (t : Stk) : Prop := ∃ u v y, xs = [u, v, y, .int .i64 t.mst] ∧ SRd encIntS w u t.dsk ∧ SRd encPartS w v t.prt ∧ SRd encLineS w y t.lns
def StackOwn (B : Nat) (w : World) (C : Nat) (xs : List Value) (t : Stk) : Prop := ∃ u v y, xs = [u, v, y, .int .i64 t.mst] ∧ SOwn encIntS tyIntS B w C u t.dsk ∧ SOwn encPartS tyPartS B w C v t.prt ∧ SOwn encLineS tyLineS B w C y t.lns ∧ Apart u v ∧ Apart u y ∧ Apart v y
def sizeStack (t : Stk) : Nat := t.dsk.length + t.prt.length + t.lns.length
def cntStack (t : Stk) : Nat := t.dsk.length + 2 * t.prt.length + 3 * t.lns.length
theorem cntStack_le (t : Stk) : cntStack t ≤ 3 * sizeStack t := by unfold cntStack sizeStack; omega
def markedStack (t : Stk) (k : Int) : Stk := ⟨marksIntS t.dsk.length k, marksPartS t.prt.length (k + t.dsk.length), marksLineS t.lns.length (k + t.dsk.length + 2 * t.prt.length), t.mst⟩
section
variable {w w' : World} {xs : List Value} {t : Stk} {B C : Nat}
theorem StackRd.below (h : StackRd w xs t) (hb : Below w.heap.size w w') : StackRd w' xs t := by
  obtain ⟨u, v, y, h1, h2, h3, h4⟩ := h
  exact ⟨u, v, y, h1, h2.below hb, h3.below hb, h4.below hb⟩
theorem StackRd.gin {w0 : World} (h : StackRd w xs t) (h0 : StackRd w0 xs t) (hg : GIn B C w w') (hB : w0.heap.size ≤ B) : StackRd w' xs t := by
  obtain ⟨u, v, y, h1, h2, h3, h4⟩ := h
  obtain ⟨u', v', y', h1', h2', h3', h4'⟩ := h0
  rw [h1] at h1'
  simp only [List.cons.injEq, and_true] at h1'
  obtain ⟨rfl, rfl, rfl⟩ := h1'
  exact ⟨u, v, y, h1, h2.gin h2' hg hB, h3.gin h3' hg hB, h4.gin h4' hg hB⟩
theorem StackOwn.rd (h : StackOwn B w C xs t) : StackRd w xs t := by
  obtain ⟨u, v, y, h1, h2, h3, h4, _⟩ := h
  exact ⟨u, v, y, h1, h2.rd, h3.rd, h4.rd⟩
theorem StackOwn.one (h : StackOwn B w C xs t) : ∀ v ∈ xs, v.oneCell' = true := by
  obtain ⟨u, v, y, rfl, ⟨A, c, g, rfl, _⟩, ⟨A', c', g', rfl, _⟩, ⟨A2, c2, g2, rfl, _⟩, _⟩ := h
  simp [Value.oneCell']
theorem StackRd.one (h : StackRd w xs t) : ∀ v ∈ xs, v.oneCell' = true := by
  obtain ⟨u, v, y, rfl, ⟨A, c, rfl, _⟩, ⟨A', c', rfl, _⟩, ⟨A2, c2, rfl, _⟩⟩ := h
  simp [Value.oneCell']
theorem StackOwn.below (h : StackOwn B w C xs t) (hb : Below w.heap.size w w') : StackOwn B w' C xs t := by
  obtain ⟨u, v, y, h1, h2, h3, h4, h5⟩ := h
  exact ⟨u, v, y, h1, h2.below hb, h3.below hb, h4.below hb, h5⟩
theorem StackOwn.gin {B' C' : Nat} (h : StackOwn B w C xs t) (hg : GIn B' C' w w') (hd : C ≤ B' ∨ C' ≤ B) : StackOwn B w' C xs t := by
  obtain ⟨u, v, y, h1, h2, h3, h4, h5⟩ := h
  exact ⟨u, v, y, h1, h2.gin hg hd, h3.gin hg hd, h4.gin hg hd, h5⟩
theorem StackOwn.mono {B' C' : Nat} (h : StackOwn B w C xs t) (h1 : B' ≤ B) (h2 : C ≤ C') : StackOwn B' w C' xs t := by
  obtain ⟨u, v, y, e1, e2, e3, e4, e5⟩ := h
  exact ⟨u, v, y, e1, e2.mono h1 h2, e3.mono h1 h2, e4.mono h1 h2, e5⟩
theorem StackRd.mst {x0 x1 x2 x3 : Value} (h : StackRd w [x0, x1, x2, x3] t) : ∃ A c A' c' A2 c2, x0 = .slice A t.dsk.length c ∧ x1 = .slice A' t.prt.length c' ∧ x2 = .slice A2 t.lns.length c2 ∧ x3 = .int .i64 t.mst := by
  obtain ⟨u, v, y, h1, ⟨A, c, rfl, _⟩, ⟨A', c', rfl, _⟩, ⟨A2, c2, rfl, _⟩⟩ := h
  simp only [List.cons.injEq, and_true] at h1
  obtain ⟨rfl, rfl, rfl, rfl⟩ := h1
  exact ⟨_, _, _, _, _, _, rfl, rfl, rfl, rfl⟩
/-- what a later block holds is apart from what an elder one holds -/
theorem SOwn.apartOf {α β : Type} {E : Enc α} {E' : Enc β} {e e' : TypeId} {w w' : World} {B C B' C' : Nat} {u v : Value} {l : List α} {m : List β} (h : SOwn E e B w C u l) (k : SOwn E' e' B' w' C' v m) (hd : C ≤ B' ∨ C' ≤ B) : Apart u v := by
  obtain ⟨A, c, g, rfl, hr, hg⟩ := h
  obtain ⟨A', c', g', rfl, hr', hg'⟩ := k
  intro a n d a' n' d' h1 h2
  cases h1
  cases h2
  rw [hr.addr, hr'.addr]
  simp at hg hg' ⊢
  omega
end
def MadeStack (t : Stk) (w : World) (en : Ending) (w' : World) : Prop := ∃ y0 y1 y2 y3, en = .returned (.agg #[y0, y1, y2, y3]) ∧ StackOwn w.heap.size w' w'.heap.size [y0, y1, y2, y3] t ∧ Below w.heap.size w w'
set_option maxHeartbeats 1000000 in
theorem szCache_big (y m : Value) (l : List Ln) (k : Int) (w : World) (h : SRd encLineS w y l) (hk0 : 0 ≤ k) (hk : k ≤ 1048576) (hs : k < l.length) :
    Calls Try.prog 51 #[.agg #[y, m], .int .i64 k] w fun e w' => e = .returned (.int .i64 (-1)) ∧ Below w.heap.size w w' := by
  go_enter Try.func51, Try.ntmps51
  go_wp2_with fail
  refine (szLineS_bigw y l k _ (h.below (by repeat (first | with_reducible exact Below.refl _ _ | with_reducible refine below_drewN ?_ _ | with_reducible refine Below.drew ?_ | with_reducible refine Below.alloc ?_ ?_ _ | with_reducible refine Below.setCell ?_ ?_ _ | omega | (focus (simp; omega)) | (focus (simp; done))))) hk0 hk hs).mono ?_
  rintro e w1 ⟨rfl, hb1⟩
  go_wp2
  go_ret
  exact ⟨rfl, (by repeat (first | with_reducible exact Below.refl _ _ | with_reducible assumption | with_reducible refine below_drewN ?_ _ | with_reducible refine Below.drew ?_ | with_reducible refine Below.alloc ?_ ?_ _ | with_reducible refine Below.setCell ?_ ?_ _ | (with_reducible refine Below.next ?_ (by assumption)) | omega | (focus (simp; omega)) | (focus (simp; done))))⟩
set_option maxHeartbeats 1000000 in
theorem szCache_ok (y m : Value) (l : List Ln) (k : Int) (w : World) (h : SRd encLineS w y l) (hk0 : 0 ≤ k) (hk : k ≤ 1048576) (hs : (l.length : Int) ≤ k) :
    Calls Try.prog 51 #[.agg #[y, m], .int .i64 k] w fun e w' => e = .returned (.int .i64 (k - l.length)) ∧ Below w.heap.size w w' := by
  go_enter Try.func51, Try.ntmps51
  go_wp2_with fail
  refine (szLineS_okw y l k _ (h.below (by repeat (first | with_reducible exact Below.refl _ _ | with_reducible refine below_drewN ?_ _ | with_reducible refine Below.drew ?_ | with_reducible refine Below.alloc ?_ ?_ _ | with_reducible refine Below.setCell ?_ ?_ _ | omega | (focus (simp; omega)) | (focus (simp; done))))) hk0 hk hs).mono ?_
  rintro e w1 ⟨rfl, hb1⟩
  go_wp2
  go_ret
  exact ⟨rfl, (by repeat (first | with_reducible exact Below.refl _ _ | with_reducible assumption | with_reducible refine below_drewN ?_ _ | with_reducible refine Below.drew ?_ | with_reducible refine Below.alloc ?_ ?_ _ | with_reducible refine Below.setCell ?_ ?_ _ | (with_reducible refine Below.next ?_ (by assumption)) | omega | (focus (simp; omega)) | (focus (simp; done))))⟩
set_option maxHeartbeats 1000000 in
theorem szStack_bigc (x0 x1 x2 x3 : Value) (t : Stk) (k : Int) (w : World) (h : StackRd w [x0, x1, x2, x3] t) (hk : 0 ≤ k ∧ k ≤ 1048576) (hs : k < sizeStack t) :
    Calls Try.prog 17 #[.agg #[x0, x1, x2, x3], .int .i64 k] w fun e w' => e = .returned (.int .i64 (-1)) ∧ Below w.heap.size w w' := by
  obtain ⟨A0, c0, A1, c1, A2, c2, e0, e1, e2, e3⟩ := id h.mst
  obtain ⟨u, v, y, h1, h2, h3, h4⟩ := h
  simp only [List.cons.injEq, and_true] at h1
  obtain ⟨rfl, rfl, rfl, rfl⟩ := h1
  subst e0 e1 e2
  unfold sizeStack at hs
  obtain ⟨hk0, hk1⟩ := hk
  have L0 := Loc.new w [.slice A0 t.dsk.length c0, .slice A1 t.prt.length c1, .slice A2 t.lns.length c2, .int .i64 t.mst] 28
  by_cases hb : k < t.dsk.length
  · go_enter Try.func17, Try.ntmps17
    go_wp2_with fail
    refine (szIntS_bigw _ t.dsk k _ (h2.below (by repeat (first | with_reducible exact Below.refl _ _ | with_reducible refine below_drewN ?_ _ | with_reducible refine Below.drew ?_ | with_reducible refine Below.alloc ?_ ?_ _ | with_reducible refine Below.setCell ?_ ?_ _ | omega | (focus (simp; omega)) | (focus (simp; done))))) hk0 hk1 hb).mono ?_
    rintro e w1 ⟨rfl, hb1⟩
    go_wp2
    go_ret
    exact ⟨rfl, (by repeat (first | with_reducible exact Below.refl _ _ | with_reducible assumption | with_reducible refine below_drewN ?_ _ | with_reducible refine Below.drew ?_ | with_reducible refine Below.alloc ?_ ?_ _ | with_reducible refine Below.setCell ?_ ?_ _ | (with_reducible refine Below.next ?_ (by assumption)) | omega | (focus (simp; omega)) | (focus (simp; done))))⟩
  · go_enter Try.func17, Try.ntmps17
    go_wp2_with fail
    refine (szIntS_okw _ t.dsk k _ (h2.below (by repeat (first | with_reducible exact Below.refl _ _ | with_reducible refine below_drewN ?_ _ | with_reducible refine Below.drew ?_ | with_reducible refine Below.alloc ?_ ?_ _ | with_reducible refine Below.setCell ?_ ?_ _ | omega | (focus (simp; omega)) | (focus (simp; done))))) hk0 hk1 (by omega)).mono ?_
    rintro e w1 ⟨rfl, hb1⟩
    have M0 := Loc.carryB L0 (fun h => by ((repeat (first | with_reducible exact h | with_reducible refine Loc.drew ?_ | with_reducible refine Loc.drewN ?_ _ | with_reducible refine Loc.alloc ?_ _)); done)) hb1
    obtain ⟨k0, k1, k2, k3, kf⟩ := M0.four
    by_cases hb' : k - t.dsk.length < t.prt.length
    · go_wp2_with fail
      refine (szPartS_bigw _ t.prt (k - t.dsk.length) _ (h3.below (Below.next (by repeat (first | with_reducible exact Below.refl _ _ | with_reducible refine below_drewN ?_ _ | with_reducible refine Below.drew ?_ | with_reducible refine Below.alloc ?_ ?_ _ | with_reducible refine Below.setCell ?_ ?_ _ | omega | (focus (simp; omega)) | (focus (simp; done)))) hb1)) (by omega) (by omega) hb').mono ?_
      rintro e w2 ⟨rfl, hb2⟩
      go_wp2
      go_ret
      exact ⟨rfl, (by repeat (first | with_reducible exact Below.refl _ _ | with_reducible assumption | with_reducible refine below_drewN ?_ _ | with_reducible refine Below.drew ?_ | with_reducible refine Below.alloc ?_ ?_ _ | with_reducible refine Below.setCell ?_ ?_ _ | (with_reducible refine Below.next ?_ (by assumption)) | omega | (focus (simp; omega)) | (focus (simp; done))))⟩
    · go_wp2_with fail
      refine (szPartS_okw _ t.prt (k - t.dsk.length) _ (h3.below (Below.next (by repeat (first | with_reducible exact Below.refl _ _ | with_reducible refine below_drewN ?_ _ | with_reducible refine Below.drew ?_ | with_reducible refine Below.alloc ?_ ?_ _ | with_reducible refine Below.setCell ?_ ?_ _ | omega | (focus (simp; omega)) | (focus (simp; done)))) hb1)) (by omega) (by omega) (by omega)).mono ?_
      rintro e w2 ⟨rfl, hb2⟩
      have N0 := Loc.carryB M0 (fun h => by ((repeat (first | with_reducible exact h | with_reducible refine Loc.drew ?_ | with_reducible refine Loc.drewN ?_ _ | with_reducible refine Loc.alloc ?_ _)); done)) hb2
      clear k0 k1 k2 k3 kf
      obtain ⟨k0, k1, k2, k3, kf⟩ := N0.four
      go_wp2_with fail
      refine (szCache_big _ _ t.lns (k - t.dsk.length - t.prt.length) _ (h4.below (Below.next (Below.next (by repeat (first | with_reducible exact Below.refl _ _ | with_reducible refine below_drewN ?_ _ | with_reducible refine Below.drew ?_ | with_reducible refine Below.alloc ?_ ?_ _ | with_reducible refine Below.setCell ?_ ?_ _ | omega | (focus (simp; omega)) | (focus (simp; done)))) hb1) hb2)) (by omega) (by omega) (by omega)).mono ?_
      rintro e w3 ⟨rfl, hb3⟩
      go_wp2
      go_ret
      exact ⟨rfl, (by repeat (first | with_reducible exact Below.refl _ _ | with_reducible assumption | with_reducible refine below_drewN ?_ _ | with_reducible refine Below.drew ?_ | with_reducible refine Below.alloc ?_ ?_ _ | with_reducible refine Below.setCell ?_ ?_ _ | (with_reducible refine Below.next ?_ (by assumption)) | omega | (focus (simp; omega)) | (focus (simp; done))))⟩
set_option maxHeartbeats 1000000 in
theorem szStack_okc (x0 x1 x2 x3 : Value) (t : Stk) (k : Int) (w : World) (h : StackRd w [x0, x1, x2, x3] t) (hk : 0 ≤ k ∧ k ≤ 1048576) (hs : (sizeStack t : Int) ≤ k) :
    Calls Try.prog 17 #[.agg #[x0, x1, x2, x3], .int .i64 k] w fun e w' => e = .returned (.int .i64 (k - sizeStack t)) ∧ Below w.heap.size w w' := by
  obtain ⟨A0, c0, A1, c1, A2, c2, e0, e1, e2, e3⟩ := id h.mst
  obtain ⟨u, v, y, h1, h2, h3, h4⟩ := h
  simp only [List.cons.injEq, and_true] at h1
  obtain ⟨rfl, rfl, rfl, rfl⟩ := h1
  subst e0 e1 e2
  unfold sizeStack at hs ⊢
  obtain ⟨hk0, hk1⟩ := hk
  have L0 := Loc.new w [.slice A0 t.dsk.length c0, .slice A1 t.prt.length c1, .slice A2 t.lns.length c2, .int .i64 t.mst] 28
  go_enter Try.func17, Try.ntmps17
  go_wp2_with fail
  refine (szIntS_okw _ t.dsk k _ (h2.below (by repeat (first | with_reducible exact Below.refl _ _ | with_reducible refine below_drewN ?_ _ | with_reducible refine Below.drew ?_ | with_reducible refine Below.alloc ?_ ?_ _ | with_reducible refine Below.setCell ?_ ?_ _ | omega | (focus (simp; omega)) | (focus (simp; done))))) hk0 hk1 (by omega)).mono ?_
  rintro e w1 ⟨rfl, hb1⟩
  have M0 := Loc.carryB L0 (fun h => by ((repeat (first | with_reducible exact h | with_reducible refine Loc.drew ?_ | with_reducible refine Loc.drewN ?_ _ | with_reducible refine Loc.alloc ?_ _)); done)) hb1
  obtain ⟨k0, k1, k2, k3, kf⟩ := M0.four
  go_wp2_with fail
  refine (szPartS_okw _ t.prt (k - t.dsk.length) _ (h3.below (Below.next (by repeat (first | with_reducible exact Below.refl _ _ | with_reducible refine below_drewN ?_ _ | with_reducible refine Below.drew ?_ | with_reducible refine Below.alloc ?_ ?_ _ | with_reducible refine Below.setCell ?_ ?_ _ | omega | (focus (simp; omega)) | (focus (simp; done)))) hb1)) (by omega) (by omega) (by omega)).mono ?_
  rintro e w2 ⟨rfl, hb2⟩
  have N0 := Loc.carryB M0 (fun h => by ((repeat (first | with_reducible exact h | with_reducible refine Loc.drew ?_ | with_reducible refine Loc.drewN ?_ _ | with_reducible refine Loc.alloc ?_ _)); done)) hb2
  clear k0 k1 k2 k3 kf
  obtain ⟨k0, k1, k2, k3, kf⟩ := N0.four
  go_wp2_with fail
  refine (szCache_ok _ _ t.lns (k - t.dsk.length - t.prt.length) _ (h4.below (Below.next (Below.next (by repeat (first | with_reducible exact Below.refl _ _ | with_reducible refine below_drewN ?_ _ | with_reducible refine Below.drew ?_ | with_reducible refine Below.alloc ?_ ?_ _ | with_reducible refine Below.setCell ?_ ?_ _ | omega | (focus (simp; omega)) | (focus (simp; done)))) hb1) hb2)) (by omega) (by omega) (by omega)).mono ?_
  rintro e w3 ⟨rfl, hb3⟩
  go_wp2
  go_ret
  exact ⟨ret_int (by omega), (by repeat (first | with_reducible exact Below.refl _ _ | with_reducible assumption | with_reducible refine below_drewN ?_ _ | with_reducible refine Below.drew ?_ | with_reducible refine Below.alloc ?_ ?_ _ | with_reducible refine Below.setCell ?_ ?_ _ | (with_reducible refine Below.next ?_ (by assumption)) | omega | (focus (simp; omega)) | (focus (simp; done))))⟩
set_option maxHeartbeats 1000000 in
theorem toCache_c (y : Value) (l : List Ln) (m : Int) (w : World) (h : SRd encLineS w y l) (hs : l.length ≤ 1099511627776) :
    Calls Try.prog 56 #[.agg #[y, .int .i64 m]] w fun e w' => ∃ y', e = .returned (.agg #[y', .int .i64 m]) ∧ SOwn encLineS tyLineS w.heap.size w' w'.heap.size y' l ∧ Below w.heap.size w w' := by
  obtain ⟨A0, c0, rfl, _⟩ := id h
  have L0 := Loc.new w [.slice A0 l.length c0, .int .i64 m] 26
  have L1 := Loc.newAt (w.alloc (.cells #[.slice A0 l.length c0, .int .i64 m] 26)) [.slice none 0 0, .int .i64 0] 33 (b := w.heap.size + 1) (by simp)
  have L2 := Loc.newAt ((w.alloc (.cells #[.slice A0 l.length c0, .int .i64 m] 26)).alloc (.cells #[.slice none 0 0, .int .i64 0] 33)) [.slice none 0 0, .int .i64 0] 33 (b := w.heap.size + 1 + 1) (by simp)
  go_enter Try.func56, Try.ntmps56
  go_wp2_with fail
  refine (toLineS_w _ l _ (h.below (by repeat (first | with_reducible exact Below.refl _ _ | with_reducible refine below_drewN ?_ _ | with_reducible refine Below.drew ?_ | with_reducible refine Below.alloc ?_ ?_ _ | with_reducible refine Below.setCell ?_ ?_ _ | omega | (focus (simp; omega)) | (focus (simp; done))))) (by omega)).mono ?_
  rintro e w1 ⟨y0, rfl, o1, hb1⟩
  obtain ⟨A1, c1, g1, rfl, _, _⟩ := id o1
  have M0 := Loc.carryB L0 (fun h => by ((repeat (first | with_reducible exact h | with_reducible refine Loc.drew ?_ | with_reducible refine Loc.drewN ?_ _ | with_reducible refine Loc.alloc ?_ _)); done)) hb1
  have M1 := Loc.carryB L1 (fun h => by ((repeat (first | with_reducible exact h | with_reducible refine Loc.drew ?_ | with_reducible refine Loc.drewN ?_ _ | with_reducible refine Loc.alloc ?_ _)); done)) hb1
  have M2 := Loc.carryB L2 (fun h => by ((repeat (first | with_reducible exact h | with_reducible refine Loc.drew ?_ | with_reducible refine Loc.drewN ?_ _ | with_reducible refine Loc.alloc ?_ _)); done)) hb1
  obtain ⟨k0, k1, kf⟩ := M0.two
  obtain ⟨l0, l1, lf⟩ := M1.two
  obtain ⟨m0, m1, mf⟩ := M2.two
  have z2 := M2.lt
  have W1 : Below w.heap.size w w1 := Below.next (by repeat (first | with_reducible exact Below.refl _ _ | with_reducible refine below_drewN ?_ _ | with_reducible refine Below.drew ?_ | with_reducible refine Below.alloc ?_ ?_ _ | with_reducible refine Below.setCell ?_ ?_ _ | omega | (focus (simp; omega)) | (focus (simp; done)))) hb1
  have H1 := Lib.hid o1
  clear o1
  go_wp2
  refine bodyPost_ret (v := .agg #[.slice A1 l.length c1, .int .i64 m]) (by simp [results, Try.results56, go_sem, *]) rfl ⟨.slice A1 l.length c1, rfl, ?_, ?_⟩
  · refine SOwn.mono (B := w.heap.size + 1 + 1 + 1) (C := w1.heap.size) ?_ (by omega) (by first | omega | (focus (simp; omega)) | (focus (simp; done)))
    have h := H1.out
    simp only [World.size_alloc] at h
    exact (by repeat (first | with_reducible exact h | with_reducible refine SOwn.drew ?_ | with_reducible refine SOwn.drewN ?_ _ | with_reducible refine SOwn.alloc ?_ _ | (with_reducible refine SOwn.below ?_ (by assumption)) | ((with_reducible refine SOwn.other ?_ ?_ _); rotate_left; (focus (first | omega | (simp; omega) | (simp; done))))))
  · exact (by repeat (first | with_reducible exact W1 | with_reducible exact Below.refl _ _ | with_reducible refine below_drewN ?_ _ | with_reducible refine Below.drew ?_ | with_reducible refine Below.alloc ?_ ?_ _ | with_reducible refine Below.setCell ?_ ?_ _ | (with_reducible refine Below.next ?_ (by assumption)) | ((with_reducible refine Below.far' (by assumption) ?_ ?_ ?_); (focus (first | omega | (simp; omega) | (simp; done))); (focus (first | omega | (simp; omega) | (simp; done)))) | omega | (focus (simp; omega)) | (focus (simp; done))))
set_option maxHeartbeats 1000000 in
theorem eqCache_c (y z : Value) (l p : List Ln) (m n : Int) (w : World) (h : SRd encLineS w y l) (k : SRd encLineS w z p) (hs : l.length ≤ 1099511627776) (ht : p.length ≤ 1099511627776) :
    Calls Try.prog 60 #[.agg #[y, .int .i64 m], .agg #[z, .int .i64 n]] w fun e w' => e = .returned (.bool (decide (l = p) && decide (m = n))) ∧ Below w.heap.size w w' := by
  obtain ⟨A0, c0, rfl, _⟩ := id h
  obtain ⟨A1, c1, rfl, _⟩ := id k
  have L0 := Loc.new w [.slice A0 l.length c0, .int .i64 m] 33
  have L1 := Loc.newAt (w.alloc (.cells #[.slice A0 l.length c0, .int .i64 m] 33)) [.slice A1 p.length c1, .int .i64 n] 33 (b := w.heap.size + 1) (by simp)
  cases e1 : decide (l = p)
  · have E1 := Lib.hid e1
    clear e1
    go_enter Try.func60, Try.ntmps60
    go_wp2_with fail
    refine (eqLineS_w _ _ l p _ (h.below (by repeat (first | with_reducible exact Below.refl _ _ | with_reducible refine below_drewN ?_ _ | with_reducible refine Below.drew ?_ | with_reducible refine Below.alloc ?_ ?_ _ | with_reducible refine Below.setCell ?_ ?_ _ | omega | (focus (simp; omega)) | (focus (simp; done))))) (k.below (by repeat (first | with_reducible exact Below.refl _ _ | with_reducible refine below_drewN ?_ _ | with_reducible refine Below.drew ?_ | with_reducible refine Below.alloc ?_ ?_ _ | with_reducible refine Below.setCell ?_ ?_ _ | omega | (focus (simp; omega)) | (focus (simp; done))))) hs ht).mono ?_
    rw [E1.out]
    rintro e w1 ⟨rfl, hb1⟩
    go_wp2
    go_ret
    exact ⟨ret_bool (by simp), (by repeat (first | with_reducible exact Below.refl _ _ | with_reducible assumption | with_reducible refine below_drewN ?_ _ | with_reducible refine Below.drew ?_ | with_reducible refine Below.alloc ?_ ?_ _ | with_reducible refine Below.setCell ?_ ?_ _ | (with_reducible refine Below.next ?_ (by assumption)) | omega | (focus (simp; omega)) | (focus (simp; done))))⟩
  · have E1 := Lib.hid e1
    clear e1
    go_enter Try.func60, Try.ntmps60
    go_wp2_with fail
    refine (eqLineS_w _ _ l p _ (h.below (by repeat (first | with_reducible exact Below.refl _ _ | with_reducible refine below_drewN ?_ _ | with_reducible refine Below.drew ?_ | with_reducible refine Below.alloc ?_ ?_ _ | with_reducible refine Below.setCell ?_ ?_ _ | omega | (focus (simp; omega)) | (focus (simp; done))))) (k.below (by repeat (first | with_reducible exact Below.refl _ _ | with_reducible refine below_drewN ?_ _ | with_reducible refine Below.drew ?_ | with_reducible refine Below.alloc ?_ ?_ _ | with_reducible refine Below.setCell ?_ ?_ _ | omega | (focus (simp; omega)) | (focus (simp; done))))) hs ht).mono ?_
    rw [E1.out]
    rintro e w1 ⟨rfl, hb1⟩
    have M0 := Loc.carryB L0 (fun h => by ((repeat (first | with_reducible exact h | with_reducible refine Loc.drew ?_ | with_reducible refine Loc.drewN ?_ _ | with_reducible refine Loc.alloc ?_ _)); done)) hb1
    have M1 := Loc.carryB L1 (fun h => by ((repeat (first | with_reducible exact h | with_reducible refine Loc.drew ?_ | with_reducible refine Loc.drewN ?_ _ | with_reducible refine Loc.alloc ?_ _)); done)) hb1
    obtain ⟨k0, k1, kf⟩ := M0.two
    obtain ⟨l0, l1, lf⟩ := M1.two
    cases hmn : (m == n)
    · go_wp2
      all_goals go_ret
      all_goals (refine ⟨ret_bool ?_, (by repeat (first | with_reducible exact Below.refl _ _ | with_reducible assumption | with_reducible refine below_drewN ?_ _ | with_reducible refine Below.drew ?_ | with_reducible refine Below.alloc ?_ ?_ _ | with_reducible refine Below.setCell ?_ ?_ _ | (with_reducible refine Below.next ?_ (by assumption)) | omega | (focus (simp; omega)) | (focus (simp; done))))⟩; simp at hmn; simp [hmn])
    · go_wp2
      all_goals go_ret
      all_goals (refine ⟨ret_bool ?_, (by repeat (first | with_reducible exact Below.refl _ _ | with_reducible assumption | with_reducible refine below_drewN ?_ _ | with_reducible refine Below.drew ?_ | with_reducible refine Below.alloc ?_ ?_ _ | with_reducible refine Below.setCell ?_ ?_ _ | (with_reducible refine Below.next ?_ (by assumption)) | omega | (focus (simp; omega)) | (focus (simp; done))))⟩; simp at hmn; simp [hmn])
set_option maxHeartbeats 1000000 in
theorem markCache_c (y m : Value) (l : List Ln) (k : Int) (B C : Nat) (w : World) (h : SOwn encLineS tyLineS B w C y l) (hs : l.length ≤ 34359738368) (hk0 : 0 ≤ k) (hk : k ≤ 549755813888) :
    Calls Try.prog 62 #[.agg #[y, m], .int .i64 k] w (MarkedS encLineS tyLineS B C y (marksLineS l.length k) (k + 3 * l.length) w) := by
  go_enter Try.func62, Try.ntmps62
  go_wp2_with fail
  refine (markLineS_w y l k B C _ (h.below (by repeat (first | with_reducible exact Below.refl _ _ | with_reducible refine below_drewN ?_ _ | with_reducible refine Below.drew ?_ | with_reducible refine Below.alloc ?_ ?_ _ | with_reducible refine Below.setCell ?_ ?_ _ | omega | (focus (simp; omega)) | (focus (simp; done))))) (by omega) hk0 (by omega)).mono ?_
  rintro e w1 ⟨rfl, o1, gi1, keep1⟩
  have O1 := Lib.hid o1
  have K1 := Lib.hid keep1
  clear o1 keep1
  go_wp2
  go_ret
  exact ⟨rfl, O1.out, GIn.trans (GIn.of_below (by repeat (first | with_reducible exact Below.refl _ _ | with_reducible refine below_drewN ?_ _ | with_reducible refine Below.drew ?_ | with_reducible refine Below.alloc ?_ ?_ _ | with_reducible refine Below.setCell ?_ ?_ _ | omega | (focus (simp; omega)) | (focus (simp; done))))) gi1, fun α' E' e' v' l'' ap own => K1.out α' E' e' v' l'' ap (own.below (by repeat (first | with_reducible exact Below.refl _ _ | with_reducible refine below_drewN ?_ _ | with_reducible refine Below.drew ?_ | with_reducible refine Below.alloc ?_ ?_ _ | with_reducible refine Below.setCell ?_ ?_ _ | omega | (focus (simp; omega)) | (focus (simp; done)))))⟩
set_option maxHeartbeats 1000000 in
theorem heldCache_c (y m : Value) (n : Nat) (k : Int) (w : World) (h : SRd encLineS w y (marksLineS n k)) (hs : n ≤ 34359738368) (hk0 : 0 ≤ k) (hk : k ≤ 549755813888) :
    Calls Try.prog 64 #[.agg #[y, m], .int .i64 k] w fun e w' => e = .returned (.int .i64 (k + 3 * n)) ∧ Below w.heap.size w w' := by
  go_enter Try.func64, Try.ntmps64
  go_wp2_with fail
  refine (heldLineS_w y n k _ (h.below (by repeat (first | with_reducible exact Below.refl _ _ | with_reducible refine below_drewN ?_ _ | with_reducible refine Below.drew ?_ | with_reducible refine Below.alloc ?_ ?_ _ | with_reducible refine Below.setCell ?_ ?_ _ | omega | (focus (simp; omega)) | (focus (simp; done))))) (by omega) hk0 (by omega)).mono ?_
  rintro e w1 ⟨rfl, hb1⟩
  go_wp2
  go_ret
  exact ⟨rfl, (by repeat (first | with_reducible exact Below.refl _ _ | with_reducible assumption | with_reducible refine below_drewN ?_ _ | with_reducible refine Below.drew ?_ | with_reducible refine Below.alloc ?_ ?_ _ | with_reducible refine Below.setCell ?_ ?_ _ | (with_reducible refine Below.next ?_ (by assumption)) | omega | (focus (simp; omega)) | (focus (simp; done))))⟩
set_option maxHeartbeats 4000000 in
theorem toStack_c (x0 x1 x2 x3 : Value) (t : Stk) (w : World) (h : StackRd w [x0, x1, x2, x3] t) (hs : sizeStack t ≤ 1099511627776) :
    Calls Try.prog 19 #[.agg #[x0, x1, x2, x3]] w (MadeStack t w) := by
  obtain ⟨A0, c0, A1, c1, A2, c2, e0, e1, e2, e3⟩ := id h.mst
  obtain ⟨u, v, y, h1, h2, h3, h4⟩ := h
  simp only [List.cons.injEq, and_true] at h1
  obtain ⟨rfl, rfl, rfl, rfl⟩ := h1
  subst e0 e1 e2
  unfold sizeStack at hs
  have L0 := Loc.new w [.slice A0 t.dsk.length c0, .slice A1 t.prt.length c1, .slice A2 t.lns.length c2, .int .i64 t.mst] 28
  have L1 := Loc.newAt (w.alloc (.cells #[.slice A0 t.dsk.length c0, .slice A1 t.prt.length c1, .slice A2 t.lns.length c2, .int .i64 t.mst] 28)) [.slice none 0 0, .slice none 0 0, .slice none 0 0, .int .i64 0] 35 (b := w.heap.size + 1) (by simp)
  have L2 := Loc.newAt ((w.alloc (.cells #[.slice A0 t.dsk.length c0, .slice A1 t.prt.length c1, .slice A2 t.lns.length c2, .int .i64 t.mst] 28)).alloc (.cells #[.slice none 0 0, .slice none 0 0, .slice none 0 0, .int .i64 0] 35)) [.slice none 0 0, .slice none 0 0, .slice none 0 0, .int .i64 0] 35 (b := w.heap.size + 1 + 1) (by simp)
  go_enter Try.func19, Try.ntmps19
  go_wp2_with fail
  refine (toIntS_w _ t.dsk _ (h2.below (by repeat (first | with_reducible exact Below.refl _ _ | with_reducible refine below_drewN ?_ _ | with_reducible refine Below.drew ?_ | with_reducible refine Below.alloc ?_ ?_ _ | with_reducible refine Below.setCell ?_ ?_ _ | omega | (focus (simp; omega)) | (focus (simp; done))))) (by omega)).mono ?_
  rintro e w1 ⟨y0, rfl, o1, hb1⟩
  obtain ⟨B0, d0, g0, rfl, _, _⟩ := id o1
  have M0 := Loc.carryB L0 (fun h => by ((repeat (first | with_reducible exact h | with_reducible refine Loc.drew ?_ | with_reducible refine Loc.drewN ?_ _ | with_reducible refine Loc.alloc ?_ _)); done)) hb1
  have M1 := Loc.carryB L1 (fun h => by ((repeat (first | with_reducible exact h | with_reducible refine Loc.drew ?_ | with_reducible refine Loc.drewN ?_ _ | with_reducible refine Loc.alloc ?_ _)); done)) hb1
  have M2 := Loc.carryB L2 (fun h => by ((repeat (first | with_reducible exact h | with_reducible refine Loc.drew ?_ | with_reducible refine Loc.drewN ?_ _ | with_reducible refine Loc.alloc ?_ _)); done)) hb1
  obtain ⟨k0, k1, k2, k3, kf⟩ := M0.four
  obtain ⟨l0, l1, l2, l3, lf⟩ := M1.four
  obtain ⟨m0, m1, m2, m3, mf⟩ := M2.four
  have z2 := M2.lt
  have hz1 := hb1.size
  simp at hz1
  have W1 : Below w.heap.size w w1 := Below.next (by repeat (first | with_reducible exact Below.refl _ _ | with_reducible refine below_drewN ?_ _ | with_reducible refine Below.drew ?_ | with_reducible refine Below.alloc ?_ ?_ _ | with_reducible refine Below.setCell ?_ ?_ _ | omega | (focus (simp; omega)) | (focus (simp; done)))) hb1
  have W2 : Below w.heap.size w (w1.setCell ⟨w.heap.size + 1 + 1, 0, none⟩ (.slice B0 t.dsk.length d0)) := Below.setCell W1 (by first | omega | (focus (simp; omega)) | (focus (simp; done))) _
  clear k0 k1 k2 k3 kf l0 l1 l2 l3 lf
  obtain ⟨k0, k1, k2, k3, kf⟩ := M0.four
  go_wp2_with fail
  refine (toPartS_w _ t.prt _ (h3.below W2) (by omega)).mono ?_
  rintro e w2 ⟨y1, rfl, o2, hb2⟩
  obtain ⟨B1, d1, g1, rfl, _, _⟩ := id o2
  have M2' : Loc (w1.setCell ⟨w.heap.size + 1 + 1, 0, none⟩ (.slice B0 t.dsk.length d0)) (w.heap.size + 1 + 1) [.slice B0 t.dsk.length d0, .slice none 0 0, .slice none 0 0, .int .i64 0] := by simpa using M2.set 0 (.slice B0 t.dsk.length d0)
  have N2 := M2'.below hb2
  have N1 := Loc.below (Loc.other' (p := ⟨w.heap.size + 1 + 1, 0, none⟩) (by simp) M1 (.slice B0 t.dsk.length d0)) hb2
  have N0 := Loc.below (Loc.other' (p := ⟨w.heap.size + 1 + 1, 0, none⟩) (by simp; omega) M0 (.slice B0 t.dsk.length d0)) hb2
  clear k0 k1 k2 k3 kf m0 m1 m2 m3 mf
  obtain ⟨k0, k1, k2, k3, kf⟩ := N0.four
  obtain ⟨m0, m1, m2, m3, mf⟩ := N2.four
  have z3 := N2.lt
  have hz2 := hb2.size
  simp at hz2
  have hap1 : Hid (Apart (.slice B0 t.dsk.length d0) (.slice B1 t.prt.length d1)) := Lib.hid (o1.apartOf o2 (.inl (by first | omega | (focus (simp; omega)) | (focus (simp; done)))))
  have ho1 : Hid (SOwn encIntS tyIntS (w.heap.size + 1 + 1 + 1) w2 w2.heap.size (.slice B0 t.dsk.length d0) t.dsk) := Lib.hid (by
    have a1 := (o1.other (p := ⟨w.heap.size + 1 + 1, 0, none⟩) (by first | omega | (focus (simp; omega)) | (focus (simp; done))) (.slice B0 t.dsk.length d0)).below hb2
    exact a1.mono (by first | omega | (focus (simp; omega)) | (focus (simp; done))) (by omega))
  have ho2 : Hid (SOwn encPartS tyPartS (w.heap.size + 1 + 1 + 1) w2 w2.heap.size (.slice B1 t.prt.length d1) t.prt) := Lib.hid (o2.mono (by first | omega | (focus (simp; omega)) | (focus (simp; done))) (Nat.le_refl _))
  have W3 : Hid (Below w.heap.size w (w2.setCell ⟨w.heap.size + 1 + 1, 1, none⟩ (.slice B1 t.prt.length d1))) := Lib.hid (Below.setCell (Below.next W2 hb2) (by first | omega | (focus (simp; omega)) | (focus (simp; done))) _)
  clear o1 o2
  go_wp2_with fail
  refine (toCache_c _ t.lns t.mst _ (h4.below W3.out) (by omega)).mono ?_
  rintro e w3 ⟨y2, rfl, o3, hb3⟩
  obtain ⟨B2, d2, g2, rfl, _, _⟩ := id o3
  have N2' : Loc (w2.setCell ⟨w.heap.size + 1 + 1, 1, none⟩ (.slice B1 t.prt.length d1)) (w.heap.size + 1 + 1) [.slice B0 t.dsk.length d0, .slice B1 t.prt.length d1, .slice none 0 0, .int .i64 0] := by simpa using N2.set 1 (.slice B1 t.prt.length d1)
  have P2 := N2'.below hb3
  have P1 := Loc.below (Loc.other' (p := ⟨w.heap.size + 1 + 1, 1, none⟩) (by simp) N1 (.slice B1 t.prt.length d1)) hb3
  clear k0 k1 k2 k3 kf m0 m1 m2 m3 mf
  obtain ⟨m0, m1, m2, m3, mf⟩ := P2.four
  obtain ⟨k0, k1, k2, k3, kf⟩ := P1.four
  have z4 := P2.lt
  have hz3 := hb3.size
  simp at hz3
  have hap2 : Hid (Apart (.slice B0 t.dsk.length d0) (.slice B2 t.lns.length d2)) := Lib.hid (ho1.out.apartOf o3 (.inl (by first | omega | (focus (simp; omega)) | (focus (simp; done)))))
  have hap3 : Hid (Apart (.slice B1 t.prt.length d1) (.slice B2 t.lns.length d2)) := Lib.hid (ho2.out.apartOf o3 (.inl (by first | omega | (focus (simp; omega)) | (focus (simp; done)))))
  have hp1 : Hid (SOwn encIntS tyIntS (w.heap.size + 1 + 1 + 1) w3 w3.heap.size (.slice B0 t.dsk.length d0) t.dsk) := Lib.hid ((SOwn.below (ho1.out.other (p := ⟨w.heap.size + 1 + 1, 1, none⟩) (by first | omega | (focus (simp; omega)) | (focus (simp; done))) (.slice B1 t.prt.length d1)) hb3).mono (by first | omega | (focus (simp; omega)) | (focus (simp; done))) (by omega))
  have hp2 : Hid (SOwn encPartS tyPartS (w.heap.size + 1 + 1 + 1) w3 w3.heap.size (.slice B1 t.prt.length d1) t.prt) := Lib.hid ((SOwn.below (ho2.out.other (p := ⟨w.heap.size + 1 + 1, 1, none⟩) (by first | omega | (focus (simp; omega)) | (focus (simp; done))) (.slice B1 t.prt.length d1)) hb3).mono (by first | omega | (focus (simp; omega)) | (focus (simp; done))) (by omega))
  have hp3 : Hid (SOwn encLineS tyLineS (w.heap.size + 1 + 1 + 1) w3 w3.heap.size (.slice B2 t.lns.length d2) t.lns) := Lib.hid (o3.mono (by first | omega | (focus (simp; omega)) | (focus (simp; done))) (Nat.le_refl _))
  have W4 : Hid (Below w.heap.size w w3) := Lib.hid (Below.next (W := w) W3.out hb3)
  clear o3 ho1 ho2
  go_wp2
  refine bodyPost_ret (v := .agg #[.slice B0 t.dsk.length d0, .slice B1 t.prt.length d1, .slice B2 t.lns.length d2, .int .i64 t.mst]) (by simp [results, Try.results19, go_sem, *]) rfl ⟨.slice B0 t.dsk.length d0, .slice B1 t.prt.length d1, .slice B2 t.lns.length d2, .int .i64 t.mst, rfl, ⟨.slice B0 t.dsk.length d0, .slice B1 t.prt.length d1, .slice B2 t.lns.length d2, rfl, ?_, ?_, ?_, hap1.out, hap2.out, hap3.out⟩, ?_⟩
  · refine SOwn.mono (B := w.heap.size + 1 + 1 + 1) (C := w3.heap.size) (by repeat (first | with_reducible exact hp1.out | with_reducible refine SOwn.drew ?_ | with_reducible refine SOwn.drewN ?_ _ | with_reducible refine SOwn.alloc ?_ _ | (with_reducible refine SOwn.below ?_ (by assumption)) | ((with_reducible refine SOwn.other ?_ ?_ _); rotate_left; (focus (first | omega | (simp; omega) | (simp; done)))))) (by omega) (by first | omega | (focus (simp; omega)) | (focus (simp; done)))
  · refine SOwn.mono (B := w.heap.size + 1 + 1 + 1) (C := w3.heap.size) (by repeat (first | with_reducible exact hp2.out | with_reducible refine SOwn.drew ?_ | with_reducible refine SOwn.drewN ?_ _ | with_reducible refine SOwn.alloc ?_ _ | (with_reducible refine SOwn.below ?_ (by assumption)) | ((with_reducible refine SOwn.other ?_ ?_ _); rotate_left; (focus (first | omega | (simp; omega) | (simp; done)))))) (by omega) (by first | omega | (focus (simp; omega)) | (focus (simp; done)))
  · refine SOwn.mono (B := w.heap.size + 1 + 1 + 1) (C := w3.heap.size) (by repeat (first | with_reducible exact hp3.out | with_reducible refine SOwn.drew ?_ | with_reducible refine SOwn.drewN ?_ _ | with_reducible refine SOwn.alloc ?_ _ | (with_reducible refine SOwn.below ?_ (by assumption)) | ((with_reducible refine SOwn.other ?_ ?_ _); rotate_left; (focus (first | omega | (simp; omega) | (simp; done)))))) (by omega) (by first | omega | (focus (simp; omega)) | (focus (simp; done)))
  · exact (by repeat (first | with_reducible exact W4.out | with_reducible exact Below.refl _ _ | with_reducible refine below_drewN ?_ _ | with_reducible refine Below.drew ?_ | with_reducible refine Below.alloc ?_ ?_ _ | with_reducible refine Below.setCell ?_ ?_ _ | (with_reducible refine Below.next ?_ (by assumption)) | ((with_reducible refine Below.far' (by assumption) ?_ ?_ ?_); (focus (first | omega | (simp; omega) | (simp; done))); (focus (first | omega | (simp; omega) | (simp; done)))) | omega | (focus (simp; omega)) | (focus (simp; done))))
set_option maxHeartbeats 2000000 in
theorem eqStack_c (x0 x1 x2 x3 y0 y1 y2 y3 : Value) (s t : Stk) (w : World) (h : StackRd w [x0, x1, x2, x3] s) (k : StackRd w [y0, y1, y2, y3] t) (hs : sizeStack s ≤ 1099511627776) (ht : sizeStack t ≤ 1099511627776) :
    Calls Try.prog 21 #[.agg #[x0, x1, x2, x3], .agg #[y0, y1, y2, y3]] w fun e w' => e = .returned (.bool (decide (s = t))) ∧ Below w.heap.size w w' := by
  obtain ⟨A0, c0, A1, c1, A2, c2, e0, e1, e2, e3⟩ := id h.mst
  obtain ⟨B0, d0, B1, d1, B2, d2, f0, f1, f2, f3⟩ := id k.mst
  obtain ⟨u, v, y, h1, h2, h3, h4⟩ := h
  simp only [List.cons.injEq, and_true] at h1
  obtain ⟨rfl, rfl, rfl, rfl⟩ := h1
  obtain ⟨u, v, y, h1, k2, k3, k4⟩ := k
  simp only [List.cons.injEq, and_true] at h1
  obtain ⟨rfl, rfl, rfl, rfl⟩ := h1
  subst e0 e1 e2 f0 f1 f2
  unfold sizeStack at hs ht
  obtain ⟨s1, s2, s3, s4⟩ := s
  obtain ⟨t1, t2, t3, t4⟩ := t
  simp only at h2 h3 h4 k2 k3 k4 hs ht ⊢
  have L0 := Loc.new w [.slice A0 s1.length c0, .slice A1 s2.length c1, .slice A2 s3.length c2, .int .i64 s4] 35
  have L1 := Loc.newAt (w.alloc (.cells #[.slice A0 s1.length c0, .slice A1 s2.length c1, .slice A2 s3.length c2, .int .i64 s4] 35)) [.slice B0 t1.length d0, .slice B1 t2.length d1, .slice B2 t3.length d2, .int .i64 t4] 35 (b := w.heap.size + 1) (by simp)
  cases e1 : decide (s1 = t1)
  · have E1 := Lib.hid e1
    clear e1
    go_enter Try.func21, Try.ntmps21
    go_wp2_with fail
    refine (eqIntS_w _ _ s1 t1 _ (h2.below (by repeat (first | with_reducible exact Below.refl _ _ | with_reducible refine below_drewN ?_ _ | with_reducible refine Below.drew ?_ | with_reducible refine Below.alloc ?_ ?_ _ | with_reducible refine Below.setCell ?_ ?_ _ | omega | (focus (simp; omega)) | (focus (simp; done))))) (k2.below (by repeat (first | with_reducible exact Below.refl _ _ | with_reducible refine below_drewN ?_ _ | with_reducible refine Below.drew ?_ | with_reducible refine Below.alloc ?_ ?_ _ | with_reducible refine Below.setCell ?_ ?_ _ | omega | (focus (simp; omega)) | (focus (simp; done))))) (by omega) (by omega)).mono ?_
    rw [E1.out]
    rintro e w1 ⟨rfl, hb1⟩
    go_wp2
    go_ret
    refine ⟨ret_bool ?_, (by repeat (first | with_reducible exact Below.refl _ _ | with_reducible assumption | with_reducible refine below_drewN ?_ _ | with_reducible refine Below.drew ?_ | with_reducible refine Below.alloc ?_ ?_ _ | with_reducible refine Below.setCell ?_ ?_ _ | (with_reducible refine Below.next ?_ (by assumption)) | omega | (focus (simp; omega)) | (focus (simp; done))))⟩
    have := E1.out
    simp at this ⊢
    intro h; exact absurd h this
  · have E1 := Lib.hid e1
    clear e1
    go_enter Try.func21, Try.ntmps21
    go_wp2_with fail
    refine (eqIntS_w _ _ s1 t1 _ (h2.below (by repeat (first | with_reducible exact Below.refl _ _ | with_reducible refine below_drewN ?_ _ | with_reducible refine Below.drew ?_ | with_reducible refine Below.alloc ?_ ?_ _ | with_reducible refine Below.setCell ?_ ?_ _ | omega | (focus (simp; omega)) | (focus (simp; done))))) (k2.below (by repeat (first | with_reducible exact Below.refl _ _ | with_reducible refine below_drewN ?_ _ | with_reducible refine Below.drew ?_ | with_reducible refine Below.alloc ?_ ?_ _ | with_reducible refine Below.setCell ?_ ?_ _ | omega | (focus (simp; omega)) | (focus (simp; done))))) (by omega) (by omega)).mono ?_
    rw [E1.out]
    rintro e w1 ⟨rfl, hb1⟩
    have M0 := Loc.carryB L0 (fun h => by ((repeat (first | with_reducible exact h | with_reducible refine Loc.drew ?_ | with_reducible refine Loc.drewN ?_ _ | with_reducible refine Loc.alloc ?_ _)); done)) hb1
    have M1 := Loc.carryB L1 (fun h => by ((repeat (first | with_reducible exact h | with_reducible refine Loc.drew ?_ | with_reducible refine Loc.drewN ?_ _ | with_reducible refine Loc.alloc ?_ _)); done)) hb1
    obtain ⟨k0, k1, k2', k3', kf⟩ := M0.four
    obtain ⟨l0, l1, l2, l3, lf⟩ := M1.four
    have H3 := Lib.hid (h3.below (Below.next (by repeat (first | with_reducible exact Below.refl _ _ | with_reducible refine below_drewN ?_ _ | with_reducible refine Below.drew ?_ | with_reducible refine Below.alloc ?_ ?_ _ | with_reducible refine Below.setCell ?_ ?_ _ | omega | (focus (simp; omega)) | (focus (simp; done)))) hb1))
    have K3 := Lib.hid (k3.below (Below.next (by repeat (first | with_reducible exact Below.refl _ _ | with_reducible refine below_drewN ?_ _ | with_reducible refine Below.drew ?_ | with_reducible refine Below.alloc ?_ ?_ _ | with_reducible refine Below.setCell ?_ ?_ _ | omega | (focus (simp; omega)) | (focus (simp; done)))) hb1))
    have H4 := Lib.hid (h4.below (Below.next (by repeat (first | with_reducible exact Below.refl _ _ | with_reducible refine below_drewN ?_ _ | with_reducible refine Below.drew ?_ | with_reducible refine Below.alloc ?_ ?_ _ | with_reducible refine Below.setCell ?_ ?_ _ | omega | (focus (simp; omega)) | (focus (simp; done)))) hb1))
    have K4 := Lib.hid (k4.below (Below.next (by repeat (first | with_reducible exact Below.refl _ _ | with_reducible refine below_drewN ?_ _ | with_reducible refine Below.drew ?_ | with_reducible refine Below.alloc ?_ ?_ _ | with_reducible refine Below.setCell ?_ ?_ _ | omega | (focus (simp; omega)) | (focus (simp; done)))) hb1))
    cases e2 : decide (s2 = t2)
    · have E2 := Lib.hid e2
      clear e2
      go_wp2_with fail
      refine (eqPartS_w _ _ s2 t2 _ H3.out K3.out (by omega) (by omega)).mono ?_
      rw [E2.out]
      rintro e w2 ⟨rfl, hb2⟩
      go_wp2
      go_ret
      refine ⟨ret_bool ?_, (by repeat (first | with_reducible exact Below.refl _ _ | with_reducible assumption | with_reducible refine below_drewN ?_ _ | with_reducible refine Below.drew ?_ | with_reducible refine Below.alloc ?_ ?_ _ | with_reducible refine Below.setCell ?_ ?_ _ | (with_reducible refine Below.next ?_ (by assumption)) | omega | (focus (simp; omega)) | (focus (simp; done))))⟩
      have := E2.out
      simp at this ⊢
      intro _ h; exact absurd h this
    · have E2 := Lib.hid e2
      clear e2
      go_wp2_with fail
      refine (eqPartS_w _ _ s2 t2 _ H3.out K3.out (by omega) (by omega)).mono ?_
      rw [E2.out]
      rintro e w2 ⟨rfl, hb2⟩
      have N0 := Loc.carryB M0 (fun h => by ((repeat (first | with_reducible exact h | with_reducible refine Loc.drew ?_ | with_reducible refine Loc.drewN ?_ _ | with_reducible refine Loc.alloc ?_ _)); done)) hb2
      have N1 := Loc.carryB M1 (fun h => by ((repeat (first | with_reducible exact h | with_reducible refine Loc.drew ?_ | with_reducible refine Loc.drewN ?_ _ | with_reducible refine Loc.alloc ?_ _)); done)) hb2
      clear k0 k1 k2' k3' kf l0 l1 l2 l3 lf
      obtain ⟨k0, k1, k2', k3', kf⟩ := N0.four
      obtain ⟨l0, l1, l2, l3, lf⟩ := N1.four
      obtain ⟨bb, hbb⟩ : ∃ bb, bb = (decide (s3 = t3) && decide (s4 = t4)) := ⟨_, rfl⟩
      have HBB := Lib.hid hbb
      go_wp2_with fail
      refine (eqCache_c _ _ s3 t3 s4 t4 _ (H4.out.below hb2) (K4.out.below hb2) (by omega) (by omega)).mono ?_
      rw [← hbb]
      clear hbb
      rintro e w3 ⟨rfl, hb3⟩
      cases bb
      all_goals
        go_wp2
        go_ret
        refine ⟨ret_bool ?_, (by repeat (first | with_reducible exact Below.refl _ _ | with_reducible assumption | with_reducible refine below_drewN ?_ _ | with_reducible refine Below.drew ?_ | with_reducible refine Below.alloc ?_ ?_ _ | with_reducible refine Below.setCell ?_ ?_ _ | (with_reducible refine Below.next ?_ (by assumption)) | omega | (focus (simp; omega)) | (focus (simp; done))))⟩
        have a1 := E1.out
        have a2 := E2.out
        have a3 := HBB.out
        simp at a1 a2 a3 ⊢
        simp_all
set_option maxHeartbeats 2000000 in
theorem markStack_c (x0 x1 x2 x3 : Value) (t : Stk) (k : Int) (B C : Nat) (w : World) (h : StackOwn B w C [x0, x1, x2, x3] t) (hC : C ≤ w.heap.size) (hs : sizeStack t ≤ 34359738368) (hk0 : 0 ≤ k) (hk : k ≤ 1048576) :
    Calls Try.prog 22 #[.agg #[x0, x1, x2, x3], .int .i64 k] w fun e w' => e = .returned (.int .i64 (k + cntStack t)) ∧ StackOwn B w' C [x0, x1, x2, x3] (markedStack t k) ∧ GIn B C w w' := by
  obtain ⟨A0, c0, A1, c1, A2, c2, e0, e1, e2, e3⟩ := id h.rd.mst
  obtain ⟨u, v, y, h1, h2, h3, h4, ap1, ap2, ap3⟩ := h
  simp only [List.cons.injEq, and_true] at h1
  obtain ⟨rfl, rfl, rfl, rfl⟩ := h1
  subst e0 e1 e2
  unfold sizeStack at hs
  have L0 := Loc.new w [.slice A0 t.dsk.length c0, .slice A1 t.prt.length c1, .slice A2 t.lns.length c2, .int .i64 t.mst] 35
  have H3 := Lib.hid h3
  have H4 := Lib.hid h4
  clear h3 h4
  go_enter Try.func22, Try.ntmps22
  go_wp2_with fail
  refine (markIntS_w (.slice A0 t.dsk.length c0) t.dsk k B C _ (SOwn.below h2 (by repeat (first | with_reducible exact Below.refl _ _ | with_reducible refine below_drewN ?_ _ | with_reducible refine Below.drew ?_ | with_reducible refine Below.alloc ?_ ?_ _ | with_reducible refine Below.setCell ?_ ?_ _ | omega | (focus (simp; omega)) | (focus (simp; done))))) (by omega) hk0 (by omega)).mono ?_
  rintro e w1 ⟨rfl, o1, gi1, keep1⟩
  have h31 := Lib.hid (keep1 _ _ _ _ _ ap1 (H3.out.below (by repeat (first | with_reducible exact Below.refl _ _ | with_reducible refine below_drewN ?_ _ | with_reducible refine Below.drew ?_ | with_reducible refine Below.alloc ?_ ?_ _ | with_reducible refine Below.setCell ?_ ?_ _ | omega | (focus (simp; omega)) | (focus (simp; done))))))
  have h41 := Lib.hid (keep1 _ _ _ _ _ ap2 (H4.out.below (by repeat (first | with_reducible exact Below.refl _ _ | with_reducible refine below_drewN ?_ _ | with_reducible refine Below.drew ?_ | with_reducible refine Below.alloc ?_ ?_ _ | with_reducible refine Below.setCell ?_ ?_ _ | omega | (focus (simp; omega)) | (focus (simp; done))))))
  have M0 := Loc.gin L0 gi1 (by omega)
  have hz1 := gi1.size
  simp at hz1
  obtain ⟨k0, k1, k2, k3, kf⟩ := M0.four
  have O1 := Lib.hid o1
  clear keep1 o1
  go_wp2_with fail
  refine (calls_eq (markPartS_w _ t.prt (k + t.dsk.length) B C _ h31.out (by omega) (by omega) (by omega)) (by simp)).mono ?_
  rintro e w2 ⟨rfl, o2, gi2, keep2⟩
  have h12 := Lib.hid (keep2 _ _ _ _ _ ap1.symm O1.out)
  have h42 := Lib.hid (keep2 _ _ _ _ _ ap3 h41.out)
  have N0 := Loc.gin M0 gi2 (by omega)
  have hz2 := gi2.size
  clear k0 k1 k2 k3 kf
  obtain ⟨k0, k1, k2, k3, kf⟩ := N0.four
  have O2 := Lib.hid o2
  clear keep2 o2
  go_wp2_with fail
  refine (calls_eq (markCache_c _ (.int .i64 t.mst) t.lns (k + t.dsk.length + 2 * t.prt.length) B C _ h42.out (by omega) (by omega) (by omega)) (by simp)).mono ?_
  rintro e w3 ⟨rfl, o3, gi3, keep3⟩
  have h13 := Lib.hid (keep3 _ _ _ _ _ ap2.symm h12.out)
  have h23 := Lib.hid (keep3 _ _ _ _ _ ap3.symm O2.out)
  have O3 := Lib.hid o3
  clear keep3 o3
  go_wp2
  go_ret
  refine ⟨ret_int ?_, ⟨_, _, _, rfl, h13.out, h23.out, O3.out, ap1, ap2, ap3⟩, ?_⟩
  · simp [cntStack]; omega
  · exact GIn.trans (GIn.trans (GIn.trans (GIn.of_below (by repeat (first | with_reducible exact Below.refl _ _ | with_reducible refine below_drewN ?_ _ | with_reducible refine Below.drew ?_ | with_reducible refine Below.alloc ?_ ?_ _ | with_reducible refine Below.setCell ?_ ?_ _ | omega | (focus (simp; omega)) | (focus (simp; done))))) gi1) gi2) gi3
set_option maxHeartbeats 1000000 in
theorem heldStack_c (x0 x1 x2 x3 : Value) (t : Stk) (k : Int) (w : World) (h : StackRd w [x0, x1, x2, x3] (markedStack t k)) (hs : sizeStack t ≤ 34359738368) (hk0 : 0 ≤ k) (hk : k ≤ 1048576) :
    Calls Try.prog 23 #[.agg #[x0, x1, x2, x3], .int .i64 k] w fun e w' => e = .returned (.int .i64 (k + cntStack t)) ∧ Below w.heap.size w w' := by
  obtain ⟨A0, c0, A1, c1, A2, c2, e0, e1, e2, e3⟩ := id h.mst
  obtain ⟨u, v, y, h1, h2, h3, h4⟩ := h
  simp only [List.cons.injEq, and_true] at h1
  obtain ⟨rfl, rfl, rfl, rfl⟩ := h1
  subst e0 e1 e2
  unfold sizeStack at hs
  unfold markedStack at *
  simp only at h2 h3 h4
  have L0 := Loc.new w [.slice A0 (marksIntS t.dsk.length k).length c0, .slice A1 (marksPartS t.prt.length (k + t.dsk.length)).length c1, .slice A2 (marksLineS t.lns.length (k + t.dsk.length + 2 * t.prt.length)).length c2, .int .i64 t.mst] 35
  go_enter Try.func23, Try.ntmps23
  go_wp2_with fail
  refine (heldIntS_w _ t.dsk.length k _ (h2.below (by repeat (first | with_reducible exact Below.refl _ _ | with_reducible refine below_drewN ?_ _ | with_reducible refine Below.drew ?_ | with_reducible refine Below.alloc ?_ ?_ _ | with_reducible refine Below.setCell ?_ ?_ _ | omega | (focus (simp; omega)) | (focus (simp; done))))) (by omega) hk0 (by omega)).mono ?_
  rintro e w1 ⟨rfl, hb1⟩
  have M0 := Loc.carryB L0 (fun h => by ((repeat (first | with_reducible exact h | with_reducible refine Loc.drew ?_ | with_reducible refine Loc.drewN ?_ _ | with_reducible refine Loc.alloc ?_ _)); done)) hb1
  obtain ⟨k0, k1, k2, k3, kf⟩ := M0.four
  go_wp2_with fail
  refine (calls_eq (heldPartS_w _ t.prt.length (k + t.dsk.length) _ (h3.below (Below.next (by repeat (first | with_reducible exact Below.refl _ _ | with_reducible refine below_drewN ?_ _ | with_reducible refine Below.drew ?_ | with_reducible refine Below.alloc ?_ ?_ _ | with_reducible refine Below.setCell ?_ ?_ _ | omega | (focus (simp; omega)) | (focus (simp; done)))) hb1)) (by omega) (by omega) (by omega)) (by simp)).mono ?_
  rintro e w2 ⟨rfl, hb2⟩
  have N0 := Loc.carryB M0 (fun h => by ((repeat (first | with_reducible exact h | with_reducible refine Loc.drew ?_ | with_reducible refine Loc.drewN ?_ _ | with_reducible refine Loc.alloc ?_ _)); done)) hb2
  clear k0 k1 k2 k3 kf
  obtain ⟨k0, k1, k2, k3, kf⟩ := N0.four
  go_wp2_with fail
  refine (calls_eq (heldCache_c _ (.int .i64 t.mst) t.lns.length (k + t.dsk.length + 2 * t.prt.length) _ (h4.below (Below.next (Below.next (by repeat (first | with_reducible exact Below.refl _ _ | with_reducible refine below_drewN ?_ _ | with_reducible refine Below.drew ?_ | with_reducible refine Below.alloc ?_ ?_ _ | with_reducible refine Below.setCell ?_ ?_ _ | omega | (focus (simp; omega)) | (focus (simp; done)))) hb1) hb2)) (by omega) (by omega) (by omega)) (by simp)).mono ?_
  rintro e w3 ⟨rfl, hb3⟩
  go_wp2
  go_ret
  refine ⟨ret_int ?_, (by repeat (first | with_reducible exact Below.refl _ _ | with_reducible assumption | with_reducible refine below_drewN ?_ _ | with_reducible refine Below.drew ?_ | with_reducible refine Below.alloc ?_ ?_ _ | with_reducible refine Below.setCell ?_ ?_ _ | (with_reducible refine Below.next ?_ (by assumption)) | omega | (focus (simp; omega)) | (focus (simp; done))))⟩
  simp [cntStack]; omega
end Go.Proofs.Ytlhbjfjphckifaa
